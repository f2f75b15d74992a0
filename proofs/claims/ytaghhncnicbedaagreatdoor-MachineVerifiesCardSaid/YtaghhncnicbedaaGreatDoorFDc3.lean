import Derived.Test.YtaghhncnicbedaaGreatDoorFDec
import Derived.Test.YtaghhncnicbedaaGreatDoorFK
import Derived.Lib.OthersKept
import Derived.BigRegion
import Derived.Deep.CutBlock
import Derived.Deep.CutRange
import Derived.Deep.DeepCutAuto
import Derived.Lib.IndexMore
import Derived.Lib.IndexLaws
import Derived.Deep.QuietTactic
import Derived.Lib.ItoaLen
set_option linter.all false
set_option maxHeartbeats 16000000
set_option maxRecDepth 1000000
namespace Go.Proofs.YtaghhncnicbedaaGreatDoor
open Go.RowKit

def tlD:Code→Code
 | .seq _ b=>b
 |c=>c
def decFV(r:Option (Int × Int × Int)):Value:=match r with|some t=>.tuple #[.agg #[.int .i64 t.1,.int .i64 t.2.1],.int .i64 t.2.2,.bool true]|none=>.tuple #[.agg #[.int .i64 0,.int .i64 0],.int .i64 0,.bool false]
theorem iter_grow(Y:World)(bs:Array Obj)(d:Nat)(s:ByteArray)(pos:Nat):(Y.grow bs d).iter s pos=Y.grow (bs.push (.stringIter s pos)) d:=by
 simp [World.iter,World.grow,World.alloc]
theorem grow_at(Y:World)(bs:Array Obj)(d j:Nat):(Y.grow bs d).heap[Y.heap.size+j]? =bs[j]?:=by
 simp only [World.grow]
 rw [Array.getElem?_append_right (by omega)]
 congr 1;omega
theorem iterAt_grow(Y:World)(bs:Array Obj)(d j:Nat)(s:ByteArray)(pos:Nat):(Y.grow bs d).iterAt (Y.heap.size+j) s pos=Y.grow (bs.setIfInBounds j (.stringIter s pos)) d:=by
 simp only [World.iterAt,World.grow]
 congr 1
 rw [Array.setIfInBounds_append_right (by omega)]
 congr 2;omega
theorem redP_go{p:Int}{f:Nat}{A B:Int}(h:A % p=0∧B % p=0):redP p (f+1) A B=redP p f (A / p) (B / p):=by rw [redP,if_pos h]
theorem redP_stop{p:Int}{f:Nat}{A B:Int}(h:¬(A % p=0∧B % p=0)):redP p f A B=(A,B):=by
 cases f with
 |zero=>rfl
 |succ f=>rw [redP,if_neg h]
def RedAt(p:Int)(f0:Nat)(A0 B0:Int)(f:Nat)(A B:Int):Prop:=redP p f A B=redP p f0 A0 B0∧B<p ^ f
theorem RedAt.next{p:Int}{f0:Nat}{A0 B0:Int}{f:Nat}{A B:Int}(hp:2≤p)(h:RedAt p f0 A0 B0 f A B)(hB:1≤B)(hm:A % p=0∧B % p=0):∃g,RedAt p f0 A0 B0 g (A / p) (B / p)∧1≤B / p∧B / p<B:=by
 obtain⟨h1,h2⟩:=h
 cases f with
 |zero=>simp at h2;omega
 |succ g=>
  have e:=Int.mul_ediv_add_emod B p
  rw [hm.2,Int.add_zero]at e
  have hq:1≤B / p:=by
   rcases Int.lt_or_le (B / p) 1 with h|h
   ·have:p*(B / p)≤p*0:=Int.mul_le_mul_of_nonneg_left (by omega) (by omega)
    omega
   ·exact h
  refine⟨g,⟨by rw [←h1,redP_go hm], ?_⟩,hq, ?_⟩
  ·rw [Int.pow_succ,←e,Int.mul_comm _ p]at h2
   exact Int.lt_of_mul_lt_mul_left h2 (by omega)
  ·have:2*(B / p)≤p*(B / p):=Int.mul_le_mul_of_nonneg_right hp (by omega)
   omega
theorem idx_two(w:World):(Instr.index 281 (.agg #[.int .i64 2,.int .i64 5]) (.int .i64 0)).run Tryz.prog w= .ok (.int .i64 2) w:=by simp [Instr.index,go_sem]
theorem idx_five(w:World):(Instr.index 281 (.agg #[.int .i64 2,.int .i64 5]) (.int .i64 1)).run Tryz.prog w= .ok (.int .i64 5) w:=by simp [Instr.index,go_sem]
def boxD(w0 wr:World):Nat:=match wr.cell? ⟨w0.heap.size,1,none⟩with|some (.int _ z)=>z.toNat|_=>0
theorem dec_T3(b:ByteArray)(x p m:Int)(w:World)(bs:Array Obj)(d:Nat)(hb:b.size≤4)(hasc:∀i (h:i<b.size),(b[i]'h).toNat<128)(hx0:0≤x)(hx1:x≤1000000000)(hp0:0≤p)(hp1:p≤10000)
 (u0 u1 u4 u5 u6 u8 u10 u12 u13 u14 u15 u16 u17 u18 u19 u20 u21 u22 u23 u24 u25 u26 u27 u28 u29 u30 u31 u32 u33 u34 u35 u36 u37 u38 u39 u40 u41 u42 u43 u44 u45 u46 u47 u48 u49 u50 u51 u52 u53 u54 u55 u56 u57 u58 u59 u60 u61 u62 u63 u64 u65 u66 u67 u68 u69 u70 u71 u72 u73 u74 u75 u76 u77 u78 u79 u80 u81 u82 u83 u84 u85 u86 u87 u88 u89 u90 u91 u92 u93 u94 u95 u96 u97 u98 u99 u100 u101 u102 u103 u104 u105 u106 u107 u108 u109 u110 u111 u112 u113 u114 u115 u116 u117 u118 u119 u120 u121 u122 u123 u124 u125 u126 u127 u128 u129 u130 u131 u132 u133 u134 u135 u136 u137 u138 u139 u140 u141:Value) :
 Code.wp Tryz.prog (tlD (tlD (tlD (tlD (tlD (tlD (tlD (tlD (Tryz.f235.body.getD .skip))))))))) (bodyPost Tryz.prog Tryz.f235 (fun e w'=>e= .returned (decFV (some ((redD (x*10 ^ b.size+p) (10 ^ b.size)).1,(redD (x*10 ^ b.size+p) (10 ^ b.size)).2,m)))∧w.Grows w')) {tmps:=#[u0,u1,.pointer (some ⟨w.heap.size,0,none⟩),.int .i64 m,u4,u5,u6,.string b,u8,.int .i64 x,u10,.int .i64 p,u12,u13,u14,u15,u16,u17,u18,u19,u20,u21,u22,u23,u24,u25,u26,u27,u28,u29,u30,u31,u32,u33,u34,u35,u36,u37,u38,u39,u40,u41,u42,u43,u44,u45,u46,u47,u48,u49,u50,u51,u52,u53,u54,u55,u56,u57,u58,u59,u60,u61,u62,u63,u64,u65,u66,u67,u68,u69,u70,u71,u72,u73,u74,u75,u76,u77,u78,u79,u80,u81,u82,u83,u84,u85,u86,u87,u88,u89,u90,u91,u92,u93,u94,u95,u96,u97,u98,u99,u100,u101,u102,u103,u104,u105,u106,u107,u108,u109,u110,u111,u112,u113,u114,u115,u116,u117,u118,u119,u120,u121,u122,u123,u124,u125,u126,u127,u128,u129,u130,u131,u132,u133,u134,u135,u136,u137,u138,u139,u140,u141],defers:=[]} ((w.alloc (.cells #[.int .i64 0,.int .i64 0] 39)).grow bs d):=by
 conv=>arg 2;whnf
 have HASC:=Lib.hid hasc
 clear hasc
 go_wp2_with fail
 go_loopw [9] (fun v9 wr=>∃k:Nat,∃X E:Int,∃bs' d',k≤b.size∧v9= .int .i64 X∧wr=((w.alloc (.cells #[.int .i64 0,.int .i64 E] 39)).grow bs' d')∧bs'[bs.size]? =some (.stringIter b k)∧Hid (X=x*10 ^ k∧E=10 ^ k)∧0≤X∧X≤10000000000000∧1≤E∧E≤10000) (fun _ wr=>b.size-wr.iterPos (w.heap.size+1+bs.size))
 case atStart=>exact⟨0,x,1,_,_,Nat.zero_le _,rfl,iter_grow _ _ _ _ _,by simp,Lib.hid (by simp),by omega,by omega,by omega,by omega⟩
 case round=>
  obtain⟨k,X,E,bs2,d2,hk,rfl,rfl,hit,HXE,hX0,hX1,hE0,hE1⟩:=hrel
  have hkk:((w.alloc (.cells #[.int .i64 0,.int .i64 E] 39)).grow bs2 d2).heap[w.heap.size+1+bs.size]? =some (.stringIter b k):=by
   have:=grow_at (w.alloc (.cells #[.int .i64 0,.int .i64 E] 39)) bs2 d2 bs.size
   rw [World.size_alloc]at this
   rw [this];exact hit
  by_cases hlt:k<b.size
  ·have hnext:∀ty,(Instr.next (.pointer (some ⟨w.heap.size+1+bs.size,0,none⟩)) true ty).run Tryz.prog ((w.alloc (.cells #[.int .i64 0,.int .i64 E] 39)).grow bs2 d2)=_:=fun ty=>Lib.run_next_ascii_at _ _ b k ty hkk hlt (HASC.out k hlt)
   have hia:=iterAt_grow (w.alloc (.cells #[.int .i64 0,.int .i64 E] 39)) bs2 d2 bs.size b (k+1)
   rw [World.size_alloc]at hia
   rw [hia]at hnext
   have hbl:bs.size<bs2.size:=(Array.getElem?_eq_some_iff.1 hit).1
   have hit2:(bs2.setIfInBounds bs.size (.stringIter b (k+1)))[bs.size]? =some (.stringIter b (k+1)):=by simp [hbl]
   have hpos:((w.alloc (.cells #[.int .i64 0,.int .i64 E] 39)).grow bs2 d2).iterPos (w.heap.size+1+bs.size)=k:=by simp [World.iterPos,hkk]
   generalize bs2.setIfInBounds bs.size (.stringIter b (k+1))=bs3 at hnext hit2
   have hk3:k≤3:=by omega
   have hE3:E≤1000:=by
    have:=HXE.out.2
    obtain h|h|h|h:k=0∨k=1∨k=2∨k=3:=by omega
    all_goals rw [this,h];decide
   have hX3:X≤1000000000000:=by
    have e:=HXE.out.1
    rw [←HXE.out.2]at e
    have h1:x*E≤1000000000*E:=Int.mul_le_mul_of_nonneg_right hx1 (by omega)
    omega
   have w6:IntKind.i64.wrap (10*X)=10*X:=IntWalk.i64_in _ (by omega)
   have w7:IntKind.i64.wrap (10*E)=10*E:=IntWalk.i64_in _ (by omega)
   have HIT:=Lib.hid (And.intro hit2 (And.intro hkk hpos))
   clear hit hit2 hkk hpos hia
   go_wp2_with fail
   clear hnext
   go_region
   go_wp2_with fail
   go_roundw
   case rel=>exact⟨k+1,_,_,_,_,by omega,rfl,rfl,HIT.out.1,Lib.hid ⟨by rw [Int.pow_succ,←Int.mul_assoc,←HXE.out.1,Int.mul_comm],by rw [Int.pow_succ,←HXE.out.2,Int.mul_comm]⟩,by omega,by omega,by omega,by omega⟩
   case measure=>
    have h2:∀dd,((w.alloc (.cells #[.int .i64 0,.int .i64 (10*E)] 39)).grow bs3 dd).heap[w.heap.size+1+bs.size]? =some (.stringIter b (k+1)):=fun dd=>by
     have:=grow_at (w.alloc (.cells #[.int .i64 0,.int .i64 (10*E)] 39)) bs3 dd bs.size
     rw [World.size_alloc,HIT.out.1]at this
     exact this
    have h1:=HIT.out.2.2
    rw [h1]
    simp only [World.iterPos,h2]
    omega
  ·have hnext:∀ty,(Instr.next (.pointer (some ⟨w.heap.size+1+bs.size,0,none⟩)) true ty).run Tryz.prog ((w.alloc (.cells #[.int .i64 0,.int .i64 E] 39)).grow bs2 d2)=_:=fun ty=>Lib.run_next_end_at _ _ b k ty hkk hlt
   obtain rfl:k=b.size:=by omega
   have hN:X+p≤10000000010000:=by omega
   have HXP:=Lib.hid (show X+p=x*10 ^ b.size+p by rw [HXE.out.1])
   have HE:=Lib.hid HXE.out.2
   have h214:E<2 ^ 14:=by rw [show(2:Int) ^ 14=16384 by decide];omega
   clear hkk hit HXE hlt
   go_wp2_with fail
   clear hnext
   go_loopw [114] (fun v114 wr=>∃A B:Int,∃bs' d',wr=((w.alloc (.cells #[.int .i64 A,.int .i64 B] 39)).grow bs' d')∧0≤A∧A≤100000000000000∧1≤B∧B≤10000∧
    ((v114= .int .i64 0∧A=X+p∧B=E)∨(v114= .int .i64 1∧Hid ((A,B)=redP 2 14 (X+p) E))∨(v114= .int .i64 2∧Hid ((A,B)=redD (X+p) E)))) (fun v114 _=>2-(intOf v114).toNat)
   case atStart=>exact⟨_,_,_,_,rfl,by omega,by omega,by omega,by omega,.inl ⟨rfl,rfl,rfl⟩⟩
   case round=>
    obtain⟨A0,B0,bs4,d4,rfl,hA00,hA01,hB00,hB01,hcase⟩:=hrel
    rcases hcase with ⟨rfl,rfl,rfl⟩|⟨rfl,H1⟩|⟨rfl,H2⟩
    ·have idx2:=idx_two
     have idx5:=idx_five
     go_wp2_with fail
     clear idx2 idx5
     go_loopw [117] (fun _ wr=>∃f:Nat,∃A B:Int,∃bs' d',wr=((w.alloc (.cells #[.int .i64 A,.int .i64 B] 39)).grow bs' d')∧Hid (RedAt 2 14 (X+p) B0 f A B)∧0≤A∧A≤100000000000000∧1≤B∧B≤10000) (fun _ wr=>boxD w wr)
     case atStart=>exact⟨14,_,_,_,_,rfl,Lib.hid ⟨rfl,h214⟩,by omega,by omega,by omega,by omega⟩
     case round=>
      obtain⟨f,A,B,bs3,d3,rfl,HRD,hA0,hA1,hB0,hB1⟩:=hrel
      have e0:=Int.tmod_eq_emod_of_nonneg (b:=2) (show 0≤A from hA0)
      have e1:=Int.tmod_eq_emod_of_nonneg (b:=2) (show 0≤B by omega)
      have e2:=Int.tdiv_eq_ediv_of_nonneg (b:=2) (show 0≤A from hA0)
      have e3:=Int.tdiv_eq_ediv_of_nonneg (b:=2) (show 0≤B by omega)
      have E:=Lib.hid (And.intro e0 (And.intro e1 (And.intro e2 e3)))
      by_cases ha:A % 2=0
      ·by_cases hb2:B % 2=0
       ·obtain⟨g,hg1,hg2,hg3⟩:=HRD.out.next (by omega) hB0 ⟨ha,hb2⟩
        have HG:=Lib.hid hg1
        have hq0:0≤A / 2:=by omega
        have hq1:A / 2≤100000000000000:=by omega
        have m0:(A.tmod 2==0)=true:=by rw [e0];simpa using ha
        have m1:(B.tmod 2==0)=true:=by rw [e1];simpa using hb2
        have w2:IntKind.i64.wrap (A.tdiv 2)=A / 2:=by rw [e2];exact IntWalk.i64_in _ (by omega)
        have w3:IntKind.i64.wrap (B.tdiv 2)=B / 2:=by rw [e3];exact IntWalk.i64_in _ (by omega)
        have w4:IntKind.i64.wrap (A.tmod 2)=0:=by rw [e0,ha];rfl
        have w5:IntKind.i64.wrap (B.tmod 2)=0:=by rw [e1,hb2];rfl
        clear hg1
        clear e0 e1 e2 e3
        go_wp2_with fail
        refine TG.begin 11 (fun w'=>w'.cell? ⟨w.heap.size,1,none⟩=some (.int .i64 B)) (by kernel_rfl) (by kernel_rfl) (by simp [go_sem]) (fun hS=>?_)
        refine TG.tkB 0 hS ?_
        refine TG.tkB 2 hS ?_
        refine TG.tkB 4 hS ?_
        refine TG.tkB 6 hS ?_
        refine TG.tkB 5 hS ?_
        refine TG.tkB 7 hS ?_
        refine TG.one (i:=1) (by kernel_rfl) rfl (fun K1 hK1=>?_)
        go_simp
        refine TG.go hK1 ?_ (fun hS=>?_)
        focus
         (try dsimp only)
         simp [go_sem]
        clear hK1 K1
        (try simp only [nS])
        refine TG.tkB 3 hS ?_
        refine TG.tkB 8 hS ?_
        refine TG.one (i:=9) (by kernel_rfl) rfl (fun K1 hK1=>?_)
        go_simp
        refine TG.go hK1 ?_ (fun hS=>?_)
        focus
         (try dsimp only)
         simp [go_sem]
        clear hK1 K1
        (try simp only [nS])
        refine TG.tkB 10 hS ?_
        refine TG.one (i:=11) (by kernel_rfl) rfl (fun K1 hK1=>?_)
        go_simp
        refine hK1 _ _ (fun h=>absurd rfl h) (TG.done (by kernel_rfl) ?_)
        clear hK1 K1 hS
        (try simp only [nS])
        go_wp2_with fail
        go_roundw
        case rel=>exact⟨g,_,_,_,_,rfl,HG,by omega,by omega,by omega,by omega⟩
        case measure=>simp [boxD,go_sem];omega
       ·have HX:=Lib.hid (redP_stop (p:=2) (f:=f) (A:=A) (B:=B) (fun h=>hb2 h.2))
        have m0:(A.tmod 2==0)=true:=by rw [e0];simpa using ha
        have m1:(B.tmod 2==0)=false:=by rw [e1];simpa using hb2
        have w4:IntKind.i64.wrap (A.tmod 2)=0:=by rw [e0,ha];rfl
        have w5:IntKind.i64.wrap (B.tmod 2)=B.tmod 2:=IntWalk.i64_in _ (by rw [e1];omega)
        have hbd:1≤B.tmod 2:=by rw [e1];omega
        clear e0 e1 e2 e3
        have hb3:(B % 2==0)=false:=by simpa using hb2
        go_wp2_with fail
        go_roundw
        case rel=>exact⟨_,_,_,_,rfl,by omega,by omega,by omega,by omega,.inr (.inl ⟨rfl,Lib.hid (by rw [←HRD.out.1,HX.out])⟩)⟩
        case measure=>simp [intOf]
      ·have HX:=Lib.hid (redP_stop (p:=2) (f:=f) (A:=A) (B:=B) (fun h=>ha h.1))
       have m0:(A.tmod 2==0)=false:=by rw [e0];simpa using ha
       have w4:IntKind.i64.wrap (A.tmod 2)=A.tmod 2:=IntWalk.i64_in _ (by rw [e0];omega)
       have hbd:1≤A.tmod 2:=by rw [e0];omega
       clear e0 e1 e2 e3
       have ha3:(A % 2==0)=false:=by simpa using ha
       go_wp2_with fail
       go_roundw
       case rel=>exact⟨_,_,_,_,rfl,by omega,by omega,by omega,by omega,.inr (.inl ⟨rfl,Lib.hid (by rw [←HRD.out.1,HX.out])⟩)⟩
       case measure=>simp [intOf]
    ·have idx2:=idx_two
     have idx5:=idx_five
     go_wp2_with fail
     clear idx2 idx5
     go_loopw [117] (fun _ wr=>∃f:Nat,∃A B:Int,∃bs' d',wr=((w.alloc (.cells #[.int .i64 A,.int .i64 B] 39)).grow bs' d')∧Hid (RedAt 5 6 A0 B0 f A B)∧0≤A∧A≤100000000000000∧1≤B∧B≤10000) (fun _ wr=>boxD w wr)
     case atStart=>exact⟨6,_,_,_,_,rfl,Lib.hid ⟨rfl,(by rw [show(5:Int) ^ 6=15625 by decide];omega)⟩,by omega,by omega,by omega,by omega⟩
     case round=>
      obtain⟨f,A,B,bs3,d3,rfl,HRD,hA0,hA1,hB0,hB1⟩:=hrel
      have e0:=Int.tmod_eq_emod_of_nonneg (b:=5) (show 0≤A from hA0)
      have e1:=Int.tmod_eq_emod_of_nonneg (b:=5) (show 0≤B by omega)
      have e2:=Int.tdiv_eq_ediv_of_nonneg (b:=5) (show 0≤A from hA0)
      have e3:=Int.tdiv_eq_ediv_of_nonneg (b:=5) (show 0≤B by omega)
      have E:=Lib.hid (And.intro e0 (And.intro e1 (And.intro e2 e3)))
      by_cases ha:A % 5=0
      ·by_cases hb2:B % 5=0
       ·obtain⟨g,hg1,hg2,hg3⟩:=HRD.out.next (by omega) hB0 ⟨ha,hb2⟩
        have HG:=Lib.hid hg1
        have hq0:0≤A / 5:=by omega
        have hq1:A / 5≤100000000000000:=by omega
        have m0:(A.tmod 5==0)=true:=by rw [e0];simpa using ha
        have m1:(B.tmod 5==0)=true:=by rw [e1];simpa using hb2
        have w2:IntKind.i64.wrap (A.tdiv 5)=A / 5:=by rw [e2];exact IntWalk.i64_in _ (by omega)
        have w3:IntKind.i64.wrap (B.tdiv 5)=B / 5:=by rw [e3];exact IntWalk.i64_in _ (by omega)
        have w4:IntKind.i64.wrap (A.tmod 5)=0:=by rw [e0,ha];rfl
        have w5:IntKind.i64.wrap (B.tmod 5)=0:=by rw [e1,hb2];rfl
        clear hg1
        clear e0 e1 e2 e3
        go_wp2_with fail
        refine TG.begin 11 (fun w'=>w'.cell? ⟨w.heap.size,1,none⟩=some (.int .i64 B)) (by kernel_rfl) (by kernel_rfl) (by simp [go_sem]) (fun hS=>?_)
        refine TG.tkB 0 hS ?_
        refine TG.tkB 2 hS ?_
        refine TG.tkB 4 hS ?_
        refine TG.tkB 6 hS ?_
        refine TG.tkB 5 hS ?_
        refine TG.tkB 7 hS ?_
        refine TG.one (i:=1) (by kernel_rfl) rfl (fun K1 hK1=>?_)
        go_simp
        refine TG.go hK1 ?_ (fun hS=>?_)
        focus
         (try dsimp only)
         simp [go_sem]
        clear hK1 K1
        (try simp only [nS])
        refine TG.tkB 3 hS ?_
        refine TG.tkB 8 hS ?_
        refine TG.one (i:=9) (by kernel_rfl) rfl (fun K1 hK1=>?_)
        go_simp
        refine TG.go hK1 ?_ (fun hS=>?_)
        focus
         (try dsimp only)
         simp [go_sem]
        clear hK1 K1
        (try simp only [nS])
        refine TG.tkB 10 hS ?_
        refine TG.one (i:=11) (by kernel_rfl) rfl (fun K1 hK1=>?_)
        go_simp
        refine hK1 _ _ (fun h=>absurd rfl h) (TG.done (by kernel_rfl) ?_)
        clear hK1 K1 hS
        (try simp only [nS])
        go_wp2_with fail
        go_roundw
        case rel=>exact⟨g,_,_,_,_,rfl,HG,by omega,by omega,by omega,by omega⟩
        case measure=>simp [boxD,go_sem];omega
       ·have HX:=Lib.hid (redP_stop (p:=5) (f:=f) (A:=A) (B:=B) (fun h=>hb2 h.2))
        have m0:(A.tmod 5==0)=true:=by rw [e0];simpa using ha
        have m1:(B.tmod 5==0)=false:=by rw [e1];simpa using hb2
        have w4:IntKind.i64.wrap (A.tmod 5)=0:=by rw [e0,ha];rfl
        have w5:IntKind.i64.wrap (B.tmod 5)=B.tmod 5:=IntWalk.i64_in _ (by rw [e1];omega)
        have hbd:1≤B.tmod 5:=by rw [e1];omega
        clear e0 e1 e2 e3
        have hb3:(B % 5==0)=false:=by simpa using hb2
        go_wp2_with fail
        go_roundw
        case rel=>exact⟨_,_,_,_,rfl,by omega,by omega,by omega,by omega,.inr (.inr ⟨rfl,Lib.hid (by unfold redD;rw [←H1.out,←HX.out];exact HRD.out.1)⟩)⟩
        case measure=>simp [intOf]
      ·have HX:=Lib.hid (redP_stop (p:=5) (f:=f) (A:=A) (B:=B) (fun h=>ha h.1))
       have m0:(A.tmod 5==0)=false:=by rw [e0];simpa using ha
       have w4:IntKind.i64.wrap (A.tmod 5)=A.tmod 5:=IntWalk.i64_in _ (by rw [e0];omega)
       have hbd:1≤A.tmod 5:=by rw [e0];omega
       clear e0 e1 e2 e3
       have ha3:(A % 5==0)=false:=by simpa using ha
       go_wp2_with fail
       go_roundw
       case rel=>exact⟨_,_,_,_,rfl,by omega,by omega,by omega,by omega,.inr (.inr ⟨rfl,Lib.hid (by unfold redD;rw [←H1.out,←HX.out];exact HRD.out.1)⟩)⟩
       case measure=>simp [intOf]
    ·go_wp2_with fail
     go_returns
     refine⟨?_,.of_below belB⟩
     have e:=H2.out
     rw [HXP.out,HE.out]at e
     rw [←e]
     rfl

theorem natG_ascii:∀(l:List UInt8) (x y:Int),natG x l=some y→∀c∈l,c.toNat<128
 | [],_,_,_,c,hc=>by cases hc
 |e::r,x,y,h,c,hc=>by
  simp only [natG]at h
  split at h
  ·rename_i hd
   rcases List.mem_cons.1 hc with rfl|hc
   ·simp only [digc,Bool.and_eq_true,decide_eq_true_eq]at hd;omega
   ·exact natG_ascii r _ y h c hc
  ·cases h
def decN(a b:ByteArray)(m:Int):Option (Int × Int × Int):=(natG 0 a.data.toList).bind fun x=>(natG 0 b.data.toList).map fun p=>((redD (x*10 ^ b.size+p) (10 ^ b.size)).1,(redD (x*10 ^ b.size+p) (10 ^ b.size)).2,m)
theorem dec_T2(a b:ByteArray)(m:Int)(w:World)(bs:Array Obj)(d:Nat)(ha:a.size≤9)(hb:b.size≤4)
 (u0 u1 u4 u5 u8 u9 u10 u11 u12 u13 u14 u15 u16 u17 u18 u19 u20 u21 u22 u23 u24 u25 u26 u27 u28 u29 u30 u31 u32 u33 u34 u35 u36 u37 u38 u39 u40 u41 u42 u43 u44 u45 u46 u47 u48 u49 u50 u51 u52 u53 u54 u55 u56 u57 u58 u59 u60 u61 u62 u63 u64 u65 u66 u67 u68 u69 u70 u71 u72 u73 u74 u75 u76 u77 u78 u79 u80 u81 u82 u83 u84 u85 u86 u87 u88 u89 u90 u91 u92 u93 u94 u95 u96 u97 u98 u99 u100 u101 u102 u103 u104 u105 u106 u107 u108 u109 u110 u111 u112 u113 u114 u115 u116 u117 u118 u119 u120 u121 u122 u123 u124 u125 u126 u127 u128 u129 u130 u131 u132 u133 u134 u135 u136 u137 u138 u139 u140 u141:Value) :
 Code.wp Tryz.prog (tlD (tlD (tlD (tlD (tlD (Tryz.f235.body.getD .skip)))))) (bodyPost Tryz.prog Tryz.f235 (fun e w'=>e= .returned (decFV (decN a b m))∧w.Grows w')) {tmps:=#[u0,u1,.pointer (some ⟨w.heap.size,0,none⟩),.int .i64 m,u4,u5,.string a,.string b,u8,u9,u10,u11,u12,u13,u14,u15,u16,u17,u18,u19,u20,u21,u22,u23,u24,u25,u26,u27,u28,u29,u30,u31,u32,u33,u34,u35,u36,u37,u38,u39,u40,u41,u42,u43,u44,u45,u46,u47,u48,u49,u50,u51,u52,u53,u54,u55,u56,u57,u58,u59,u60,u61,u62,u63,u64,u65,u66,u67,u68,u69,u70,u71,u72,u73,u74,u75,u76,u77,u78,u79,u80,u81,u82,u83,u84,u85,u86,u87,u88,u89,u90,u91,u92,u93,u94,u95,u96,u97,u98,u99,u100,u101,u102,u103,u104,u105,u106,u107,u108,u109,u110,u111,u112,u113,u114,u115,u116,u117,u118,u119,u120,u121,u122,u123,u124,u125,u126,u127,u128,u129,u130,u131,u132,u133,u134,u135,u136,u137,u138,u139,u140,u141],defers:=[]} ((w.alloc (.cells #[.int .i64 0,.int .i64 0] 39)).grow bs d):=by
 have HA:Hid _:=Lib.hid (fun w=>natural2_any a w (by omega))
 have HB:Hid _:=Lib.hid (fun w=>natural2_any b w (by omega))
 unfold decN
 cases hna:natG 0 a.data.toList with
 |none=>
  rw [hna]at HA
  simp only [natV,Option.bind_none]at HA ⊢
  clear hna
  cases hnb:natG 0 b.data.toList with
  |none=>
   rw [hnb]at HB
   simp only [natV]at HB
   clear hnb
   conv=>arg 2;whnf
   go_wp2_with ((go_at_call 239;first|(with_reducible refine(HA.out _).mono ?_)|(with_reducible refine(HB.out _).mono ?_));rintro e w' ⟨rfl,rfl⟩)
   go_returns
   exact⟨rfl,.of_below belB⟩
  |some p=>
   rw [hnb]at HB
   simp only [natV]at HB
   clear hnb
   conv=>arg 2;whnf
   go_wp2_with ((go_at_call 239;first|(with_reducible refine(HA.out _).mono ?_)|(with_reducible refine(HB.out _).mono ?_));rintro e w' ⟨rfl,rfl⟩)
   go_returns
   exact⟨rfl,.of_below belB⟩
 |some x=>
  have bx:=natG_bd _ 0 x (by omega) hna
  rw [hna]at HA
  simp only [natV,Option.bind_some]at HA ⊢
  clear hna
  cases hnb:natG 0 b.data.toList with
  |none=>
   rw [hnb]at HB
   simp only [natV,Option.map_none]at HB ⊢
   clear hnb
   conv=>arg 2;whnf
   go_wp2_with ((go_at_call 239;first|(with_reducible refine(HA.out _).mono ?_)|(with_reducible refine(HB.out _).mono ?_));rintro e w' ⟨rfl,rfl⟩)
   go_returns
   exact⟨rfl,.of_below belB⟩
  |some p=>
   have bp:=natG_bd _ 0 p (by omega) hnb
   have hasc:=natG_ascii _ _ _ hnb
   have hx:x≤1000000000:=by
    have h1:a.data.toList.length=a.size:=by simp
    rw [h1]at bx
    have h2:=Nat.pow_le_pow_right (show 1≤10 by omega) ha
    have h3:((10 ^ a.size:Nat):Int)≤((10 ^ 9:Nat):Int):=by exact_mod_cast h2
    simp at h3
    omega
   have hp:p≤10000:=by
    have h1:b.data.toList.length=b.size:=by simp
    rw [h1]at bp
    have h2:=Nat.pow_le_pow_right (show 1≤10 by omega) hb
    have h3:((10 ^ b.size:Nat):Int)≤((10 ^ 4:Nat):Int):=by exact_mod_cast h2
    simp at h3
    omega
   have hx0:=bx.1
   have hp0:=bp.1
   rw [hnb]at HB
   simp only [natV,Option.map_some]at HB ⊢
   clear hnb bx bp
   have hasc2:∀i (h:i<b.size),(b[i]'h).toNat<128:=fun i h=>hasc _ (by
    have:b[i]'h=b.data.toList[i]'(by simpa using h):=by simp;rfl
    rw [this];exact List.getElem_mem _)
   have HH:=Lib.hid (And.intro hasc2 (And.intro hx (And.intro hp (And.intro hx0 hp0))))
   clear hasc hasc2 hx hp hx0 hp0
   conv=>arg 2;whnf
   apply wp_seq_k
   intro K1 hK1
   have HK1:=Lib.hid hK1
   clear hK1
   go_wp2_with ((go_at_call 239;first|(with_reducible refine(HA.out _).mono ?_)|(with_reducible refine(HB.out _).mono ?_));rintro e w' ⟨rfl,rfl⟩)
   refine HK1.out _ _ ?_
   clear HK1 K1
   apply wp_seq_k
   intro K2 hK2
   have HK2:=Lib.hid hK2
   clear hK2
   go_wp2_with ((go_at_call 239;first|(with_reducible refine(HA.out _).mono ?_)|(with_reducible refine(HB.out _).mono ?_));rintro e w' ⟨rfl,rfl⟩)
   refine HK2.out _ _ ?_
   clear HK2 K2
   apply wp_seq_k
   intro K3 hK3
   have HK3:=Lib.hid hK3
   clear hK3
   go_wp2_with ((go_at_call 239;first|(with_reducible refine(HA.out _).mono ?_)|(with_reducible refine(HB.out _).mono ?_));rintro e w' ⟨rfl,rfl⟩)
   refine HK3.out _ _ ?_
   exact dec_T3 b x p m w bs _ hb HH.out.1 HH.out.2.2.2.1 HH.out.2.1 HH.out.2.2.2.2 HH.out.2.2.1 _ _ _ _ _ _ _ _ _ _ _ _ _ _ _ _ _ _ _ _ _ _ _ _ _ _ _ _ _ _ _ _ _ _ _ _ _ _ _ _ _ _ _ _ _ _ _ _ _ _ _ _ _ _ _ _ _ _ _ _ _ _ _ _ _ _ _ _ _ _ _ _ _ _ _ _ _ _ _ _ _ _ _ _ _ _ _ _ _ _ _ _ _ _ _ _ _ _ _ _ _ _ _ _ _ _ _ _ _ _ _ _ _ _ _ _ _ _ _ _ _ _ _ _ _ _ _ _ _ _ _ _ _ _ _ _ _

theorem index_byte:∀(l:List UInt8) (c:UInt8),Lib.index l [c]=Lib.indexByte l c
 | [],c=>by simp [Lib.index,Lib.indexByte]
 |b::l,c=>by
  have ih:=index_byte l c
  have hp:([c]:List UInt8).isPrefixOf (b::l)=(b==c):=by
   simp only [List.isPrefixOf,Bool.and_true]
   exact BEq.comm
  unfold Lib.index Lib.indexByte
  rw [hp,ih]
def cutA(t:ByteArray):ByteArray:=⟨(Lib.cut t.data.toList [46]).1.toArray⟩
def cutB(t:ByteArray):ByteArray:=⟨(Lib.cut t.data.toList [46]).2.1.toArray⟩
def cutP(t:ByteArray):Bool:=(Lib.cut t.data.toList [46]).2.2
theorem cut_some{t:ByteArray}{o:Nat}(h:Lib.indexByte t.data.toList 46=o)(ho:o<t.size):cutA t=t.extract 0 o∧cutB t=t.extract (o+1) t.size∧cutP t=true:=by
 have e:Lib.cut t.data.toList [46]=(t.data.toList.take o,t.data.toList.drop (o+1),true):=by
  unfold Lib.cut
  rw [index_byte,h,if_pos (by omega)]
  simp
 unfold cutA cutB cutP
 rw [e]
 refine⟨?_, ?_,rfl⟩
 ·apply ByteArray.ext
  rw [ByteArray.data_extract]
  apply Array.ext'
  rw [Array.toList_extract]
  simp [List.extract]
 ·apply ByteArray.ext
  rw [ByteArray.data_extract]
  apply Array.ext'
  rw [Array.toList_extract]
  simp only [List.extract]
  rw [List.take_of_length_le]
  rw [List.length_drop,Array.length_toList]
  exact Nat.le_refl _
theorem cut_none{t:ByteArray}(h:Lib.indexByte t.data.toList 46= -1):cutA t=t∧cutB t=⟨#[]⟩∧cutP t=false:=by
 have e:Lib.cut t.data.toList [46]=(t.data.toList,[],false):=by
  unfold Lib.cut
  rw [index_byte,h,if_neg (by omega)]
 unfold cutA cutB cutP
 rw [e]
 exact⟨by apply ByteArray.ext;simp,rfl,rfl⟩
theorem scut_any(t:ByteArray)(w:World)(ht:t.size≤maxLen):Calls Tryz.prog 241 #[.string t,.string ⟨#[46]⟩] w fun e w'=>e= .returned (.tuple #[.string (cutA t),.string (cutB t),.bool (cutP t)])∧w.Grows w':=by
 unfold maxLen at ht
 have HI:Hid _:=Lib.hid (fun w=>Tryz.stringslite_Index_one t 46 w)
 have hge:=Lib.indexByte_ge t.data.toList 46
 by_cases h:Lib.indexByte t.data.toList 46= -1
 ·have HC:=Lib.hid (cut_none h)
  rw [h]at HI
  clear h hge
  go_enter Tryz.func241,Tryz.ntmps241
  go_wp2_with ((go_at_call 246;(with_reducible refine(HI.out _).mono ?_);rintro e w' ⟨rfl,rfl⟩))
  go_returns
  exact⟨by rw [HC.out.1,HC.out.2.1,HC.out.2.2];rfl,.of_below belB⟩
 ·obtain⟨o,ho⟩:∃o:Nat,Lib.indexByte t.data.toList 46=o:=⟨(Lib.indexByte t.data.toList 46).toNat,by omega⟩
  have hlt:o<t.size:=by
   have:=(Lib.indexByte_some ho).1
   have h2:=(List.getElem?_eq_some_iff.1 this).1
   simpa using h2
  have HC:=Lib.hid (cut_some ho hlt)
  rw [ho]at HI
  have h1:(o:Int)+1≤t.size:=by omega
  have h2:¬(o:Int)<0:=by omega
  have h3:(o:Int)≤t.size:=by omega
  have e1:(t.extract 0 (o:Int).toNat)=t.extract 0 o:=by rw [Int.toNat_natCast]
  have e2:t.extract ((o:Int)+1).toNat t.size=t.extract (o+1) t.size:=by congr 1
  have E:=Lib.hid (And.intro e1 e2)
  clear e1 e2 h hge ho
  go_enter Tryz.func241,Tryz.ntmps241
  go_wp2_with ((go_at_call 246;(with_reducible refine(HI.out _).mono ?_);rintro e w' ⟨rfl,rfl⟩))
  go_quiet (fail)
  go_wp2_with fail
  go_returns
  exact⟨by rw [HC.out.1,HC.out.2.1,HC.out.2.2];first|rfl|(simp;done),.of_below belB⟩
theorem Cut_dot(t:ByteArray)(w:World)(ht:t.size≤maxLen):Calls Tryz.prog 238 #[.string t,.string ⟨#[46]⟩] w fun e w'=>e= .returned (.tuple #[.string (cutA t),.string (cutB t),.bool (cutP t)])∧w.Grows w':=by
 have HI:Hid _:=Lib.hid (fun w=>scut_any t w ht)
 generalize cutA t=a at *
 generalize cutB t=b at *
 generalize cutP t=c at *
 go_enter Tryz.func238,Tryz.ntmps238
 go_wp2_with ((go_at_call 241;(with_reducible refine(HI.out _).mono ?_);rintro e w' ⟨rfl,bs,dr,rfl⟩))
 go_returns
 exact⟨rfl,.of_below belB⟩

def formB(a b:ByteArray)(pt:Bool):Bool:=decForm a.data.toList b.data.toList pt
def decM(t:ByteArray)(m:Int):Option (Int × Int × Int):=if formB (cutA t) (cutB t) (cutP t)=true then decN (cutA t) (cutB t) m else none
theorem form_eq(a b:ByteArray)(pt:Bool):formB a b pt=(decide (1≤a.size)&&decide (a.size≤9)&&!(decide (1<a.size)&&decide (a.data.toList.head? =some 48))&&!(pt&&(decide (b.size<1) || decide (4<b.size)))):=by
 unfold formB decForm
 have h1:a.data.toList.length=a.size:=by simp
 have h2:b.data.toList.length=b.size:=by simp
 rw [h1,h2]
theorem head_eq{a:ByteArray}(h:0<a.size):(a.data.toList.head? =some 48)↔((a[0]'h).toNat:Int)=48:=by
 have h2:0<a.data.toList.length:=by simpa using h
 rw [List.head?_eq_getElem?,List.getElem?_eq_getElem h2]
 have e:a.data.toList[0]=a[0]'h:=by simp;rfl
 rw [e]
 constructor
 ·intro k;simp only [Option.some.injEq]at k;rw [k];rfl
 ·intro k
  congr 1
  apply UInt8.toNat_inj.1
  have:(48:UInt8).toNat=48:=rfl
  omega
def decK(a b:ByteArray)(pt:Bool)(m:Int):Option (Int × Int × Int):=if formB a b pt=true then decN a b m else none
theorem cutB_nil{t:ByteArray}(h:cutP t=false):(cutB t).size=0:=by
 unfold cutP Lib.cut at h
 unfold cutB Lib.cut
 split at h
 ·simp at h
 ·rename_i hc;rw [if_neg hc];rfl
theorem dec_T1k(t a b:ByteArray)(pt:Bool)(m:Int)(w:World)(hpt:pt=false→b.size=0)
 (HC:Hid (∀w,Calls Tryz.prog 238 #[.string t,.string ⟨#[46]⟩] w fun e w'=>e= .returned (.tuple #[.string a,.string b,.bool pt])∧w.Grows w'))
 (u1 u4 u5 u6 u7 u8 u9 u10 u11 u12 u13 u14 u15 u16 u17 u18 u19 u20 u21 u22 u23 u24 u25 u26 u27 u28 u29 u30 u31 u32 u33 u34 u35 u36 u37 u38 u39 u40 u41 u42 u43 u44 u45 u46 u47 u48 u49 u50 u51 u52 u53 u54 u55 u56 u57 u58 u59 u60 u61 u62 u63 u64 u65 u66 u67 u68 u69 u70 u71 u72 u73 u74 u75 u76 u77 u78 u79 u80 u81 u82 u83 u84 u85 u86 u87 u88 u89 u90 u91 u92 u93 u94 u95 u96 u97 u98 u99 u100 u101 u102 u103 u104 u105 u106 u107 u108 u109 u110 u111 u112 u113 u114 u115 u116 u117 u118 u119 u120 u121 u122 u123 u124 u125 u126 u127 u128 u129 u130 u131 u132 u133 u134 u135 u136 u137 u138 u139 u140 u141:Value) :
 Code.wp Tryz.prog (tlD (tlD (tlD (Tryz.f235.body.getD .skip)))) (bodyPost Tryz.prog Tryz.f235 (fun e w'=>e= .returned (decFV (decK a b pt m))∧w.Grows w')) {tmps:=#[.string t,u1,.pointer (some ⟨w.heap.size,0,none⟩),.int .i64 m,u4,u5,u6,u7,u8,u9,u10,u11,u12,u13,u14,u15,u16,u17,u18,u19,u20,u21,u22,u23,u24,u25,u26,u27,u28,u29,u30,u31,u32,u33,u34,u35,u36,u37,u38,u39,u40,u41,u42,u43,u44,u45,u46,u47,u48,u49,u50,u51,u52,u53,u54,u55,u56,u57,u58,u59,u60,u61,u62,u63,u64,u65,u66,u67,u68,u69,u70,u71,u72,u73,u74,u75,u76,u77,u78,u79,u80,u81,u82,u83,u84,u85,u86,u87,u88,u89,u90,u91,u92,u93,u94,u95,u96,u97,u98,u99,u100,u101,u102,u103,u104,u105,u106,u107,u108,u109,u110,u111,u112,u113,u114,u115,u116,u117,u118,u119,u120,u121,u122,u123,u124,u125,u126,u127,u128,u129,u130,u131,u132,u133,u134,u135,u136,u137,u138,u139,u140,u141],defers:=[]} (w.alloc (.cells #[.int .i64 0,.int .i64 0] 39)):=by
 have hf:=form_eq a b pt
 have hbad (h:formB a b pt=false):decK a b pt m=none:=by unfold decK;rw [h];rfl
 have hgood (h:formB a b pt=true):decK a b pt m=decN a b m:=by unfold decK;rw [h];rfl
 conv=>arg 2;whnf
 apply wp_seq_k
 intro K1 hK1
 have HK1:=Lib.hid hK1
 clear hK1
 go_wp2_with ((go_at_call 238;(with_reducible refine(HC.out _).mono ?_);rintro e w' ⟨rfl,bs,dr,rfl⟩))
 clear HC
 by_cases s1:1≤a.size
 case neg=>
  have HX:=Lib.hid (hbad (by rw [hf,decide_eq_false s1];rfl))
  have z1:(a.size:Int)<1:=by omega
  clear hf hbad hgood
  refine HK1.out _ _ ?_
  apply wp_seq_k
  intro K2 hK2
  have HK2:=Lib.hid hK2
  clear hK2
  go_wp2_with fail
  go_returns
  exact⟨by rw [HX.out];rfl,.of_below belB⟩
 by_cases s2:a.size≤9
 case neg=>
  have HX:=Lib.hid (hbad (by rw [hf,decide_eq_false s2,Bool.and_false];rfl))
  have z1:(9:Int)<(a.size:Int):=by omega
  clear hf hbad hgood
  refine HK1.out _ _ ?_
  apply wp_seq_k
  intro K2 hK2
  have HK2:=Lib.hid hK2
  clear hK2
  go_wp2_with fail
  go_returns
  exact⟨by rw [HX.out];rfl,.of_below belB⟩
 have h0:0<a.size:=by omega
 have hh:=head_eq h0
 have key (hz:(decide (1<a.size)&&decide (a.data.toList.head? =some 48))=false):formB a b pt=!(pt&&(decide (b.size<1) || decide (4<b.size))):=by
  rw [hf,decide_eq_true s1,decide_eq_true s2,hz];rfl
 by_cases s3:1<a.size
 ·by_cases s4:((a[0]'h0).toNat:Int)=48
  ·have HX:=Lib.hid (hbad (by rw [hf,decide_eq_true s3,decide_eq_true (hh.2 s4)];simp))
   have z1:(1:Int)<(a.size:Int):=by omega
   have z2:(a.size:Int)≤9:=by omega
   clear hf hbad hgood key hh
   refine HK1.out _ _ ?_
   apply wp_seq_k
   intro K2 hK2
   have HK2:=Lib.hid hK2
   clear hK2
   go_wp2_with fail
   go_returns
   exact⟨by rw [HX.out];rfl,.of_below belB⟩
  ·have hz:(decide (1<a.size)&&decide (a.data.toList.head? =some 48))=false:=by rw [decide_eq_false (fun h=>s4 (hh.1 h)),Bool.and_false]
   have hk:=key hz
   have s7:(((a[0]'h0).toNat:Int)==48)=false:=by simpa using s4
   have z1:(1:Int)<(a.size:Int):=by omega
   have z2:(a.size:Int)≤9:=by omega
   clear hf key hh hz
   cases pt
   ·have HX:=Lib.hid (hgood (by rw [hk];rfl))
    have hb0:=hpt rfl
    clear hk hbad hgood hpt
    refine HK1.out _ _ ?_
    apply wp_seq_k
    intro K2 hK2
    have HK2:=Lib.hid hK2
    clear hK2
    go_wp2_with fail
    refine HK2.out _ _ ?_
    rw [HX.out]
    exact dec_T2 a b m w bs _ (by omega) (by omega) _ _ _ _ _ _ _ _ _ _ _ _ _ _ _ _ _ _ _ _ _ _ _ _ _ _ _ _ _ _ _ _ _ _ _ _ _ _ _ _ _ _ _ _ _ _ _ _ _ _ _ _ _ _ _ _ _ _ _ _ _ _ _ _ _ _ _ _ _ _ _ _ _ _ _ _ _ _ _ _ _ _ _ _ _ _ _ _ _ _ _ _ _ _ _ _ _ _ _ _ _ _ _ _ _ _ _ _ _ _ _ _ _ _ _ _ _ _ _ _ _ _ _ _ _ _ _ _ _ _ _ _ _ _ _ _ _ _
   ·clear hpt
    by_cases s5:b.size<1
    ·have HX:=Lib.hid (hbad (by rw [hk,decide_eq_true s5];rfl))
     have z3:(b.size:Int)<1:=by omega
     clear hk hbad hgood
     refine HK1.out _ _ ?_
     apply wp_seq_k
     intro K2 hK2
     have HK2:=Lib.hid hK2
     clear hK2
     go_wp2_with fail
     go_returns
     exact⟨by rw [HX.out];rfl,.of_below belB⟩
    ·by_cases s6:4<b.size
     ·have HX:=Lib.hid (hbad (by rw [hk,decide_eq_true s6];simp))
      have z3:(4:Int)<(b.size:Int):=by omega
      clear hk hbad hgood
      refine HK1.out _ _ ?_
      apply wp_seq_k
      intro K2 hK2
      have HK2:=Lib.hid hK2
      clear hK2
      go_wp2_with fail
      go_returns
      exact⟨by rw [HX.out];rfl,.of_below belB⟩
     ·have HX:=Lib.hid (hgood (by rw [hk,decide_eq_false s5,decide_eq_false s6];rfl))
      have z3:(b.size:Int)≤4:=by omega
      have z4:(1:Int)≤(b.size:Int):=by omega
      clear hk hbad hgood
      refine HK1.out _ _ ?_
      apply wp_seq_k
      intro K2 hK2
      have HK2:=Lib.hid hK2
      clear hK2
      go_wp2_with fail
      refine HK2.out _ _ ?_
      rw [HX.out]
      exact dec_T2 a b m w bs _ (by omega) (by omega) _ _ _ _ _ _ _ _ _ _ _ _ _ _ _ _ _ _ _ _ _ _ _ _ _ _ _ _ _ _ _ _ _ _ _ _ _ _ _ _ _ _ _ _ _ _ _ _ _ _ _ _ _ _ _ _ _ _ _ _ _ _ _ _ _ _ _ _ _ _ _ _ _ _ _ _ _ _ _ _ _ _ _ _ _ _ _ _ _ _ _ _ _ _ _ _ _ _ _ _ _ _ _ _ _ _ _ _ _ _ _ _ _ _ _ _ _ _ _ _ _ _ _ _ _ _ _ _ _ _ _ _ _ _ _ _ _ _
 ·have hz:(decide (1<a.size)&&decide (a.data.toList.head? =some 48))=false:=by rw [decide_eq_false s3,Bool.false_and]
  have hk:=key hz
  have z1:(a.size:Int)≤1:=by omega
  have z2:(1:Int)≤(a.size:Int):=by omega
  clear hf key hh hz
  cases pt
  ·have HX:=Lib.hid (hgood (by rw [hk];rfl))
   have hb0:=hpt rfl
   clear hk hbad hgood hpt
   refine HK1.out _ _ ?_
   apply wp_seq_k
   intro K2 hK2
   have HK2:=Lib.hid hK2
   clear hK2
   go_wp2_with fail
   refine HK2.out _ _ ?_
   rw [HX.out]
   exact dec_T2 a b m w bs _ (by omega) (by omega) _ _ _ _ _ _ _ _ _ _ _ _ _ _ _ _ _ _ _ _ _ _ _ _ _ _ _ _ _ _ _ _ _ _ _ _ _ _ _ _ _ _ _ _ _ _ _ _ _ _ _ _ _ _ _ _ _ _ _ _ _ _ _ _ _ _ _ _ _ _ _ _ _ _ _ _ _ _ _ _ _ _ _ _ _ _ _ _ _ _ _ _ _ _ _ _ _ _ _ _ _ _ _ _ _ _ _ _ _ _ _ _ _ _ _ _ _ _ _ _ _ _ _ _ _ _ _ _ _ _ _ _ _ _ _ _ _ _
  ·clear hpt
   by_cases s5:b.size<1
   ·have HX:=Lib.hid (hbad (by rw [hk,decide_eq_true s5];rfl))
    have z3:(b.size:Int)<1:=by omega
    clear hk hbad hgood
    refine HK1.out _ _ ?_
    apply wp_seq_k
    intro K2 hK2
    have HK2:=Lib.hid hK2
    clear hK2
    go_wp2_with fail
    go_returns
    exact⟨by rw [HX.out];rfl,.of_below belB⟩
   ·by_cases s6:4<b.size
    ·have HX:=Lib.hid (hbad (by rw [hk,decide_eq_true s6];simp))
     have z3:(4:Int)<(b.size:Int):=by omega
     clear hk hbad hgood
     refine HK1.out _ _ ?_
     apply wp_seq_k
     intro K2 hK2
     have HK2:=Lib.hid hK2
     clear hK2
     go_wp2_with fail
     go_returns
     exact⟨by rw [HX.out];rfl,.of_below belB⟩
    ·have HX:=Lib.hid (hgood (by rw [hk,decide_eq_false s5,decide_eq_false s6];rfl))
     have z3:(b.size:Int)≤4:=by omega
     have z4:(1:Int)≤(b.size:Int):=by omega
     clear hk hbad hgood
     refine HK1.out _ _ ?_
     apply wp_seq_k
     intro K2 hK2
     have HK2:=Lib.hid hK2
     clear hK2
     go_wp2_with fail
     refine HK2.out _ _ ?_
     rw [HX.out]
     exact dec_T2 a b m w bs _ (by omega) (by omega) _ _ _ _ _ _ _ _ _ _ _ _ _ _ _ _ _ _ _ _ _ _ _ _ _ _ _ _ _ _ _ _ _ _ _ _ _ _ _ _ _ _ _ _ _ _ _ _ _ _ _ _ _ _ _ _ _ _ _ _ _ _ _ _ _ _ _ _ _ _ _ _ _ _ _ _ _ _ _ _ _ _ _ _ _ _ _ _ _ _ _ _ _ _ _ _ _ _ _ _ _ _ _ _ _ _ _ _ _ _ _ _ _ _ _ _ _ _ _ _ _ _ _ _ _ _ _ _ _ _ _ _ _ _ _ _ _ _
theorem decM_eq(t:ByteArray)(m:Int):decM t m=decP (Lib.cut t.data.toList [46]).1 (Lib.cut t.data.toList [46]).2.1 (Lib.cut t.data.toList [46]).2.2 m:=by
 unfold decM formB decN decP cutA cutB cutP
 simp [ByteArray.size]
theorem strip_eq{s t:ByteArray}{m:Int}(h:stripM s.data.toList=(t.data.toList,m)):decF s.data.toList=decM t m:=by
 unfold decF
 rw [h,decM_eq]
theorem last_eq{s:ByteArray}{n:Nat}(h:s.size=n+1):s.data.toList.getLast? =some (s[n]'(by omega)):=by
 have h3:s.data.toList.length=s.size:=by simp
 have h2:s.data.toList≠[]:=by
  intro e
  rw [e]at h3;simp at h3;omega
 rw [List.getLast?_eq_some_getLast h2,List.getLast_eq_getElem]
 congr 1
 have e:s.data.toList.length-1=n:=by omega
 simp only [e]
 rfl
theorem drop_last{s:ByteArray}{n:Nat}(h:s.size=n+1):(s.extract 0 n).data.toList=s.data.toList.dropLast:=by
 rw [ByteArray.data_extract,Array.toList_extract]
 have h3:s.data.toList.length=s.size:=by simp
 simp only [List.extract,List.drop_zero,Nat.sub_zero,List.dropLast_eq_take]
 congr 1
 omega
theorem Decimal2_any(s:ByteArray)(w:World)(hs:s.size≤maxLen):Calls Tryz.prog 235 #[.string s] w fun e w'=>e= .returned (decFV (decF s.data.toList))∧w.Grows w':=by
 by_cases h0:0<s.size
 ·obtain⟨n,hn⟩:∃n,s.size=n+1:=⟨s.size-1,by omega⟩
  have hl:=last_eq hn
  have hd:=drop_last hn
  have hm:s.size≤9223372036854775807:=by unfold maxLen at hs;omega
  have he:(s.extract 0 n).size≤maxLen:=by rw [ByteArray.size_extract];omega
  have hlt:n<s.size:=by omega
  obtain⟨c,hc⟩:∃c,s[n]'hlt=c:=⟨_,rfl⟩
  rw [hc]at hl
  have hN:(s.size:Int)=(n:Int)+1:=by omega
  by_cases c3:c=100
  ·have HF:Hid (decF s.data.toList=decK (cutA (s.extract 0 n)) (cutB (s.extract 0 n)) (cutP (s.extract 0 n)) 3):=Lib.hid (strip_eq (by unfold stripM;rw [hl,c3,if_pos rfl,hd]))
   have HE:=Lib.hid he
   have q1:((c.toNat:Int)==100)=true:=by rw [c3];rfl
   clear he hl hd c3 hs
   exact fz6
  ·by_cases c4:c=109
   focus
    have HF:Hid (decF s.data.toList=decK (cutA (s.extract 0 n)) (cutB (s.extract 0 n)) (cutP (s.extract 0 n)) 4):=Lib.hid (strip_eq (by unfold stripM;rw [hl,c4,if_neg (by decide),if_pos rfl,hd]))
    have HE:=Lib.hid he
    have q1:((c.toNat:Int)==100)=false:=by rw [c4];rfl
    have q2:((c.toNat:Int)==109)=true:=by rw [c4];rfl
   rotate_left
   focus
    have HF:Hid (decF s.data.toList=decK (cutA s) (cutB s) (cutP s) 2):=Lib.hid (strip_eq (by unfold stripM;rw [hl,if_neg (by simpa using c3),if_neg (by simpa using c4)]))
    have HE:=Lib.hid hs
    have q1:((c.toNat:Int)==100)=false:=by
     rw [beq_eq_false_iff_ne];intro k;exact c3 (UInt8.toNat_inj.1 (by have:(100:UInt8).toNat=100:=rfl;omega))
    have q2:((c.toNat:Int)==109)=false:=by
     rw [beq_eq_false_iff_ne];intro k;exact c4 (UInt8.toNat_inj.1 (by have:(109:UInt8).toNat=109:=rfl;omega))
   rotate_left
   all_goals
    clear he hl hd c3 c4 hs
    exact fz6
 ·have h1:s.data.toList= []:=by
   have h3:s.data.toList.length=s.size:=by simp
   exact List.eq_nil_of_length_eq_zero (by omega)
  have HF:Hid (decF s.data.toList=decK (cutA s) (cutB s) (cutP s) 2):=Lib.hid (strip_eq (by rw [h1];rfl))
  have HE:=Lib.hid hs
  have hN:(s.size:Int)=0:=by omega
  clear h1 hs
  exact fz6
def FdPost(n d m:Int)(w:World)(e:Ending)(w':World):Prop:=∃s,e= .returned (.tuple #[.string s,.bool (decOk n d m)])∧(decOk n d m=true→s.data.toList=dec2T n d m)∧w.Grows w'
theorem FdPost.no{n d m:Int}{w w':World}(h:decOk n d m=false)(hw:w.Grows w'):FdPost n d m w (.returned (.tuple #[.string ⟨#[]⟩,.bool false])) w':=
 ⟨⟨#[]⟩,by rw [h],fun k=>(by rw [h]at k;cases k),hw⟩
theorem FdPost.yes{n d m:Int}{w w':World}{s:ByteArray}(h:decOk n d m=true)(hs:s.data.toList=dec2T n d m)(hw:w.Grows w'):FdPost n d m w (.returned (.tuple #[.string s,.bool true])) w':=
 ⟨s,by rw [h],fun _=>hs,hw⟩
def FdAt(n d:Int)(k:Nat)(l:List Int)(r:Int)(s:ByteArray):Prop:=
 fdig d 4 (n % d)=(fdig d (4-k) r).map (l++ ·)∧l.length=k∧s.data.toList=Lib.decDigits (n / d).toNat++dotL l
theorem dotL_snoc{l:List Int}(h:l≠[])(x:Int):dotL (l++[x])=dotL l++[dgB x]:=by
 unfold dotL
 rw [if_neg h,if_neg (by simp)]
 simp
theorem dotL_one(x:Int):dotL [x]= [46,dgB x]:=by unfold dotL;rw [if_neg (by simp)];rfl
theorem dec_dg{x:Int}(h0:0≤x)(h1:x≤9):Lib.decDigits x.toNat= [dgB x]:=by
 rw [Lib.decDigits,dif_pos (by omega)];rfl
theorem app_list(a b:ByteArray):(a++b).data.toList=a.data.toList++b.data.toList:=by
 rw [ByteArray.data_append,Array.toList_append]
theorem fdig_more{d:Int}{f:Nat}{r:Int}(h:0<r):fdig d (f+1) r=(fdig d f (r*10 % d)).map fun l=>r*10 / d::l:=by
 rw [fdig,if_neg (by omega)]
theorem FdAt.first{n d r:Int}{s:ByteArray}(h:FdAt n d 0 [] r s)(hr:0<r)(h0:0≤r*10 / d)(h1:r*10 / d≤9):FdAt n d 1 [r*10 / d] (r*10 % d) (s++⟨#[46]⟩++⟨(Lib.decDigits (r*10 / d).toNat).toArray⟩):=by
 obtain⟨a,-,c⟩:=h
 refine⟨?_,rfl, ?_⟩
 ·rw [a,show 4-0=3+1 by rfl,fdig_more hr]
  cases fdig d 3 (r*10 % d)<;>rfl
 ·rw [app_list,app_list,c,dec_dg h0 h1,dotL_one]
  simp [dotL]
theorem FdAt.more{n d r:Int}{s:ByteArray}{k:Nat}{l:List Int}(h:FdAt n d k l r s)(hk:0<k)(hk4:k<4)(hr:0<r)(h0:0≤r*10 / d)(h1:r*10 / d≤9) :
 FdAt n d (k+1) (l++[r*10 / d]) (r*10 % d) (s++⟨(Lib.decDigits (r*10 / d).toNat).toArray⟩):=by
 obtain⟨a,b,c⟩:=h
 refine⟨?_,by simp [b], ?_⟩
 ·rw [a,show 4-k=(4-(k+1))+1 by omega,fdig_more hr]
  cases fdig d (4-(k+1)) (r*10 % d)<;>simp
 ·rw [app_list,c,dec_dg h0 h1,dotL_snoc (by intro e;rw [e]at b;simp at b;omega),List.append_assoc]
theorem FdAt.none4{n d r:Int}{s:ByteArray}{l:List Int}(h:FdAt n d 4 l r s)(hr:0<r):fdig d 4 (n % d)=none:=by
 rw [h.1];show(fdig d 0 r).map _=none;rw [fdig,if_neg (by omega)];rfl
theorem FdAt.some{n d r:Int}{s:ByteArray}{k:Nat}{l:List Int}(h:FdAt n d k l r s)(hr:r≤0):fdig d 4 (n % d)=some l:=by
 rw [h.1]
 have:fdig d (4-k) r=Option.some []:=by
  cases 4-k with
  |zero=>rw [fdig,if_pos hr]
  |succ f=>rw [fdig,if_pos hr]
 rw [this];simp
theorem dec_cmp{s:ByteArray}{n d m:Int}{l:List Int}(h1:1≤d)(h2:d≤10000)(h3:0≤n)(h4:n≤1000000000000000)(hf:fdig d 4 (n % d)=some l)(hs:s.data.toList=Lib.decDigits (n / d).toNat++dotL l++sufL m) :
 (decF s.data.toList=none∧decOk n d m=false)∨∃a b c,decF s.data.toList=some (a,b,c)∧((a=n∧b=d∧c=m∧decOk n d m=true∧s.data.toList=dec2T n d m)∨(a≠n∧decOk n d m=false)∨(b≠d∧decOk n d m=false)∨(c≠m∧decOk n d m=false)):=by
 have hr:=dec2_read (m:=m) h1 h2 h3 h4 hf
 rw [←hs]at hr
 cases hd:decF s.data.toList with
 |none=>
  left
  refine⟨rfl, ?_⟩
  rw [Bool.eq_false_iff];intro k
  have:=hr.2 k
  rw [hd]at this;cases this
 |some t=>
  right
  obtain⟨a,b,c⟩:=t
  refine⟨a,b,c,rfl, ?_⟩
  by_cases e1:a=n
  ·by_cases e2:b=d
   ·by_cases e3:c=m
    ·left
     refine⟨e1,e2,e3,hr.1 (by rw [hd,e1,e2,e3]), ?_⟩
     unfold dec2T;rw [hf];exact hs
    ·right;right;right
     refine⟨e3, ?_⟩
     rw [Bool.eq_false_iff];intro k
     have:=hr.2 k
     rw [hd]at this
     simp only [Option.some.injEq,Prod.mk.injEq]at this
     exact e3 this.2.2
   ·right;right;left
    refine⟨e2, ?_⟩
    rw [Bool.eq_false_iff];intro k
    have:=hr.2 k
    rw [hd]at this
    simp only [Option.some.injEq,Prod.mk.injEq]at this
    exact e2 this.2.1
  ·right;left
   refine⟨e1, ?_⟩
   rw [Bool.eq_false_iff];intro k
   have:=hr.2 k
   rw [hd]at this
   simp only [Option.some.injEq,Prod.mk.injEq]at this
   exact e1 this.1
theorem FormatDecimal2_any(n d m:Int)(w:World)(h1:I64 n)(h2:I64 d)(h3:I64 m)(ht:Tab w):Calls Tryz.prog 230 #[.agg #[.int .i64 n,.int .i64 d],.int .i64 m] w (FdPost n d m w):=by
 unfold I64 at h1 h2 h3
 by_cases c1:d<1
 ·exact fz21
 by_cases c2:10000<d
 ·exact fz21
 by_cases c3:n<0
 ·exact fz21
 by_cases c4:(1000000000000000:Int)<n
 ·exact fz21
 have d0:1≤d:=by omega
 have d1:d≤10000:=by omega
 have n0:0≤n:=by omega
 have n1:n≤1000000000000000:=by omega
 clear c1 c2 c3 c4
 have hq0:0≤n / d:=Int.ediv_nonneg n0 (by omega)
 have hq1:n / d≤n:=Int.ediv_le_self _ n0
 have hr0:0≤n % d:=Int.emod_nonneg _ (by omega)
 have hr1:n % d<d:=Int.emod_lt_of_pos _ (by omega)
 have et:n.tdiv d=n / d:=Int.tdiv_eq_ediv_of_nonneg n0
 have em:n.tmod d=n % d:=Int.tmod_eq_emod_of_nonneg n0
 have dz:(d==0)=false:=by simp;omega
 have HT:=Lib.hid ht
 have hi:Lib.itoa (n / d)=Lib.decDigits (n / d).toNat:=by unfold Lib.itoa;rw [if_neg (by omega)]
 have HI:Hid (∀w,Tab w→Calls Tryz.prog 234 #[.int .i64 (n / d)] w fun e w'=>e= .returned (.string ⟨(Lib.decDigits (n / d).toNat).toArray⟩)∧w.Grows w'):=Lib.hid (fun w h=>by
  have:=Itoa_any (n / d) (by omega) (by omega) w h
  rwa [hi]at this)
 have HS0:Hid (FdAt n d 0 [] (n % d) ⟨(Lib.decDigits (n / d).toNat).toArray⟩):=Lib.hid ⟨by show _=(fdig d 4 (n % d)).map _;simp,rfl,by simp [dotL]⟩
 have HZ0:Hid ((⟨(Lib.decDigits (n / d).toNat).toArray⟩:ByteArray).size≤20):=Lib.hid (by
  show(Lib.decDigits (n / d).toNat).toArray.size≤20
  rw [List.size_toArray,Lib.decDigits_length]
  exact Lib.nDigits_le20 _ (by omega))
 clear hi ht
 generalize(⟨(Lib.decDigits (n / d).toNat).toArray⟩:ByteArray)=s0 at *
 go_enter Tryz.func230,Tryz.ntmps230
 go_wp2_with (go_at_call 234;(with_reducible refine(HI.out _ (HT.out.alloc _)).mono ?_);rintro e w' ⟨rfl,bs,dr,rfl⟩)
 go_loopw [6,7,8] (fun v6 v7 v8 wr=>∃k:Nat,∃l:List Int,∃r:Int,∃s:ByteArray,k≤4∧v8= .int .i64 k∧v7= .int .i64 r∧v6= .string s∧0≤r∧r<d∧(s.size:Int)≤30+10*k∧Hid (FdAt n d k l r s)∧
  World.Grows (w.alloc (.cells #[.int .i64 n,.int .i64 d] 39)) wr) (fun _ _ v8 _=>5-(intOf v8).toNat)
 case atStart=>exact⟨0,[],_,_,by omega,rfl,rfl,rfl,hr0,hr1,by have:=HZ0.out;omega,HS0,.of_below belB⟩
 case round=>
  obtain⟨k,l,r,s,hk,rfl,rfl,rfl,r0,r1,hsz,HF,bs3,dr3,rfl⟩:=hrel
  clear HI
  by_cases hp:0<r
  ·have x0:0≤r*10 / d:=Int.ediv_nonneg (by omega) (by omega)
   have x1:r*10 / d≤9:=by
    have:r*10 / d<10:=Int.ediv_lt_of_lt_mul (by omega) (by omega)
    omega
   have x2:0≤r*10 % d:=Int.emod_nonneg _ (by omega)
   have x3:r*10 % d<d:=Int.emod_lt_of_pos _ (by omega)
   have x4:(r*10).tdiv d=r*10 / d:=Int.tdiv_eq_ediv_of_nonneg (by omega)
   have x5:(r*10).tmod d=r*10 % d:=Int.tmod_eq_emod_of_nonneg (by omega)
   have HX:Hid _:=Lib.hid (fun w=>Itoa_digit (r*10 / d) x0 x1 w)
   have HXB:=Lib.hid (And.intro x0 x1)
   obtain⟨s9,hs9⟩:∃s9,(⟨(Lib.decDigits (r*10 / d).toNat).toArray⟩:ByteArray)=s9:=⟨_,rfl⟩
   have hz9:s9.size=1:=by rw [←hs9,dec_dg x0 x1];rfl
   rw [hs9]at HX
   have HS9:=Lib.hid hs9
   clear hs9
   by_cases k0:k=0
   ·subst k0
    have hl:l= []:=List.eq_nil_of_length_eq_zero HF.out.2.1
    subst hl
    go_wp2_with (go_at_call 234;(with_reducible refine(HX.out _).mono ?_);rintro e w' ⟨rfl,rfl⟩)
    go_roundw
    case rel=>exact⟨1,_,_,_,by omega,rfl,rfl,rfl,x2,x3,by
     rw [ByteArray.size_append,ByteArray.size_append,hz9]
     show((s.size+1+1:Nat):Int)≤_
     simp at hsz ⊢;omega,Lib.hid (by rw [←HS9.out];exact HF.out.first hp HXB.out.1 HXB.out.2),.of_below belB⟩
    case measure=>simp [intOf]
   ·by_cases k4:k=4
    ·subst k4
     have HN:=Lib.hid (dec2_none (m:=m) d0 d1 n0 n1 (HF.out.none4 hp))
     go_wp2_with fail
     go_returns
     exact FdPost.no HN.out (.of_below belB)
    ·have kz:((k:Int)==0)=false:=by simp;omega
     have k44:((k:Int)==4)=false:=by simp;omega
     go_wp2_with (go_at_call 234;(with_reducible refine(HX.out _).mono ?_);rintro e w' ⟨rfl,rfl⟩)
     go_roundw
     case rel=>exact⟨k+1,_,_,_,by omega,by go_num,rfl,rfl,x2,x3,by
      rw [ByteArray.size_append,hz9];omega,Lib.hid (by rw [←HS9.out];exact HF.out.more (by omega) (by omega) hp HXB.out.1 HXB.out.2),.of_below belB⟩
     case measure=>simp [intOf];omega
  ·clear HS0 HZ0
   have hsz2:(s.size:Int)≤70:=by omega
   by_cases m3:m=3
   ·subst m3
    have HDEC:=Lib.hid (dec_cmp (m:=3) (s:=s++⟨#[100]⟩) d0 d1 n0 n1 (HF.out.some (by omega)) (by rw [app_list,HF.out.2.2];try rfl))
    have HD:Hid _:=Lib.hid (fun w=>Decimal2_any (s++⟨#[100]⟩) w (by rw [ByteArray.size_append];unfold maxLen;show s.size+1≤_;omega))
    clear HF
    rcases HDEC.out with ⟨hn,hno⟩|⟨a,b,c,hs,⟨rfl,rfl,rfl,hy,ht⟩|⟨h1,hno⟩|⟨h1,hno⟩|⟨h1,hno⟩⟩
    ·exact fz41
    ·exact fz14
    ·exact fz26
    ·exact fz30
    ·rw [hs]at HD
     simp only [decFV]at HD
     have HO:=Lib.hid hno
     have q1:(c==3)=false:=by simpa using h1
     exact fz7
   ·by_cases m4:m=4
    ·subst m4
     have HDEC:=Lib.hid (dec_cmp (m:=4) (s:=s++⟨#[109]⟩) d0 d1 n0 n1 (HF.out.some (by omega)) (by rw [app_list,HF.out.2.2];try rfl))
     have HD:Hid _:=Lib.hid (fun w=>Decimal2_any (s++⟨#[109]⟩) w (by rw [ByteArray.size_append];unfold maxLen;show s.size+1≤_;omega))
     clear HF
     rcases HDEC.out with ⟨hn,hno⟩|⟨a,b,c,hs,⟨rfl,rfl,rfl,hy,ht⟩|⟨h1,hno⟩|⟨h1,hno⟩|⟨h1,hno⟩⟩
     ·exact fz41
     ·exact fz14
     ·exact fz26
     ·exact fz30
     ·rw [hs]at HD
      simp only [decFV]at HD
      have HO:=Lib.hid hno
      have q1:(c==4)=false:=by simpa using h1
      exact fz7
    ·have y3:(m==3)=false:=by simpa using m3
     have y4:(m==4)=false:=by simpa using m4
     have hsuf:sufL m= []:=by unfold sufL;rw [if_neg m3,if_neg m4]
     have hap:s.data.toList=s.data.toList++sufL m:=by rw [hsuf,List.append_nil]
     have HAP:=Lib.hid hap
     clear m3 m4 hsuf hap
     have HDEC:=Lib.hid (dec_cmp (m:=m) (s:=s) d0 d1 n0 n1 (HF.out.some (by omega)) (by rw [HAP.out,HF.out.2.2];try rfl))
     have HD:Hid _:=Lib.hid (fun w=>Decimal2_any (s) w (by unfold maxLen;omega))
     clear HF
     rcases HDEC.out with ⟨hn,hno⟩|⟨a,b,c,hs,⟨rfl,rfl,rfl,hy,ht⟩|⟨h1,hno⟩|⟨h1,hno⟩|⟨h1,hno⟩⟩
     ·exact fz41
     ·exact fz14
     ·exact fz26
     ·exact fz30
     ·rw [hs]at HD
      simp only [decFV]at HD
      have HO:=Lib.hid hno
      have q1:(c==m)=false:=by simpa using h1
      exact fz7
def nodeB(e:Ex):Bool:=decide ((e.args.length:Int)=argsN e.op)&&
 (if e.op=1 then decOk e.num e.den e.dim&&e.name.toList.isEmpty
  else if e.op=2 then decide (e.num=0)&&decide (e.den=0)&&decide (e.dim=0)&&nameB e.name
  else if e.op=3 then decide (e.dim=0)&&e.name.toList.isEmpty&&decide (e.den=1)&&decide (1≤e.num)&&decide (e.num≤45)
  else decide (e.num=0)&&decide (e.den=0)&&decide (e.dim=0)&&e.name.toList.isEmpty)
theorem formed_node(e:Ex):formedB e=(nodeB e&&formedsB e.args):=by
 rw [formedB_eq]
 unfold nodeB
 by_cases hl:(e.args.length:Int)=argsN e.op
 ·rw [decide_eq_true hl,Bool.true_and,Bool.true_and]
  have nil (h:e.op=1∨e.op=2∨e.op=3):formedsB e.args=true:=by
   have:e.args= []:=by
    have h0:argsN e.op=0:=by unfold argsN;rw [if_pos (by omega)]
    exact List.eq_nil_of_length_eq_zero (by omega)
   rw [this];rfl
  by_cases o1:e.op=1
  ·rw [if_pos o1,if_pos o1,nil (.inl o1),Bool.and_true]
  ·rw [if_neg o1,if_neg o1]
   by_cases o2:e.op=2
   ·rw [if_pos o2,if_pos o2,nil (.inr (.inl o2)),Bool.and_true]
   ·rw [if_neg o2,if_neg o2]
    by_cases o3:e.op=3
    ·rw [if_pos o3,if_pos o3,nil (.inr (.inr o3)),Bool.and_true]
    ·rw [if_neg o3,if_neg o3,Bool.and_comm]
 ·rw [decide_eq_false hl];rfl
theorem formeds_any(l:List Ex):formedsB l=!(List.range l.length).any fun k=>!formedB (l.getD k default):=by
 induction l with
 |nil=>rfl
 |cons e r ih=>
  rw [formedsB,ih,List.length_cons,List.range_succ_eq_map,List.any_cons,List.any_map]
  simp only [List.getD_cons_zero,Bool.not_or,Bool.not_not]
  congr 1
theorem node2_len(e:Ex)(a:Option Addr)(cap:Nat)(w:World)(hr:ExRng e)(hne:¬(e.args.length:Int)=argsN e.op):(Calls Tryz.prog 220 #[exV e (.slice a e.args.length cap)] w fun r w'=>r= .returned (.bool (nodeB e))∧w.Grows w'):=by
 have HF:Hid (nodeB e=false):=Lib.hid (by unfold nodeB;rw [decide_eq_false hne,Bool.false_and])
 obtain⟨on,od⟩:=hr.num
 obtain⟨pn,pd⟩:=hr.den
 have hsz:=hr.name
 have hi:=Lib.hid (And.intro hr.num (And.intro hr.den hr.dim))
 clear hr
 have h1:((e.args.length:Int)!=argsN e.op)=true:=by simpa using hne
 clear hne
 go_enter Tryz.func220,Tryz.ntmps220
 go_wp2_with fail
 go_quiet ((go_at_call 229;exact Calls.quiet_eq (arity2_any _ _)))
 go_wp2_with fail
 go_returns
 exact⟨ret_bool HF.out.symm,.of_below belB⟩
theorem node2_lit(e:Ex)(a:Option Addr)(cap:Nat)(w:World)(hr:ExRng e)(ht:Tab w)(hle:(e.args.length:Int)=argsN e.op)(ho:e.op=1):(Calls Tryz.prog 220 #[exV e (.slice a e.args.length cap)] w fun r w'=>r= .returned (.bool (nodeB e))∧w.Grows w'):=by
 have HF:Hid (nodeB e=(decOk e.num e.den e.dim&&e.name.toList.isEmpty)):=Lib.hid (by unfold nodeB;rw [decide_eq_true hle,Bool.true_and,if_pos ho])
 obtain⟨on,od⟩:=hr.num
 obtain⟨pn,pd⟩:=hr.den
 have hsz:=hr.name
 have hi:=Lib.hid (And.intro hr.num (And.intro hr.den hr.dim))
 clear hr
 have HT:=Lib.hid ht
 clear ht
 have h1:((e.args.length:Int)!=argsN 1)=false:=by rw [ho]at hle;simpa using hle
 clear hle
 cases hd:decOk e.num e.den e.dim
 all_goals
  have HD:Hid _:=Lib.hid (fun w (ht:Tab w)=>FormatDecimal2_any e.num e.den e.dim w hi.out.1 hi.out.2.1 hi.out.2.2 ht)
  unfold FdPost at HD
  rw [hd]at HD HF
  clear hd
  go_enter Tryz.func220,Tryz.ntmps220
  go_wp2_with fail
  go_quiet ((go_at_call 229;exact Calls.quiet_eq (arity2_any _ _)))
  go_wp2_with (go_at_call 230;refine(HD.out _ ((HT.out.alloc _).drewN _)).mono ?_;rintro e' w' ⟨s,rfl,-,bs,d,rfl⟩)
  all_goals
   go_returns
   exact⟨ret_bool (by rw [HF.out];simp [*]),.of_below belB⟩
theorem node2_name(e:Ex)(a:Option Addr)(cap:Nat)(w:World)(hr:ExRng e)(hle:(e.args.length:Int)=argsN e.op)(ho:e.op=2):(Calls Tryz.prog 220 #[exV e (.slice a e.args.length cap)] w fun r w'=>r= .returned (.bool (nodeB e))∧w.Grows w'):=by
 have HF:Hid (nodeB e=(decide (e.num=0)&&decide (e.den=0)&&decide (e.dim=0)&&nameB e.name)):=Lib.hid (by unfold nodeB;rw [decide_eq_true hle,Bool.true_and,if_neg (by omega),if_pos ho])
 obtain⟨on,od⟩:=hr.num
 obtain⟨pn,pd⟩:=hr.den
 have hsz:=hr.name
 have hi:=Lib.hid (And.intro hr.num (And.intro hr.den hr.dim))
 clear hr
 have h1:((e.args.length:Int)!=argsN 2)=false:=by rw [ho]at hle;simpa using hle
 clear hle
 have HM:=Lib.hid (show e.name.size≤maxLen by unfold maxLen;omega)
 go_enter Tryz.func220,Tryz.ntmps220
 go_wp2_with fail
 go_quiet ((go_at_call 229;exact Calls.quiet_eq (arity2_any _ _)))
 go_wp2_with (go_at_call 231;refine(isName2_any _ _ HM.out).mono ?_;rintro e' w' ⟨rfl,rfl⟩)
 all_goals
  go_returns
  exact⟨ret_bool (by rw [HF.out];first|(simp [*];done)|(simp [*];rfl)),.of_below belB⟩
theorem node2_best(e:Ex)(a:Option Addr)(cap:Nat)(w:World)(hr:ExRng e)(hle:(e.args.length:Int)=argsN e.op)(ho:e.op=3):(Calls Tryz.prog 220 #[exV e (.slice a e.args.length cap)] w fun r w'=>r= .returned (.bool (nodeB e))∧w.Grows w'):=by
 have HF:Hid (nodeB e=(decide (e.dim=0)&&e.name.toList.isEmpty&&decide (e.den=1)&&decide (1≤e.num)&&decide (e.num≤45))):=Lib.hid (by unfold nodeB;rw [decide_eq_true hle,Bool.true_and,if_neg (by omega),if_neg (by omega),if_pos ho])
 obtain⟨on,od⟩:=hr.num
 obtain⟨pn,pd⟩:=hr.den
 have hsz:=hr.name
 have hi:=Lib.hid (And.intro hr.num (And.intro hr.den hr.dim))
 clear hr
 have h1:((e.args.length:Int)!=argsN 3)=false:=by rw [ho]at hle;simpa using hle
 clear hle
 go_enter Tryz.func220,Tryz.ntmps220
 go_wp2_with fail
 go_quiet ((go_at_call 229;exact Calls.quiet_eq (arity2_any _ _)))
 go_wp2_with fail
 all_goals
  go_returns
  exact⟨ret_bool (by rw [HF.out];first|(simp [*];done)|(simp [*];rfl)|(simp [*];intros;omega)),.of_below belB⟩
theorem node2_op(e:Ex)(a:Option Addr)(cap:Nat)(w:World)(hr:ExRng e)(hle:(e.args.length:Int)=argsN e.op)(o1:¬e.op=1)(o2:¬e.op=2)(o3:¬e.op=3):(Calls Tryz.prog 220 #[exV e (.slice a e.args.length cap)] w fun r w'=>r= .returned (.bool (nodeB e))∧w.Grows w'):=by
 have HF:Hid (nodeB e=(decide (e.num=0)&&decide (e.den=0)&&decide (e.dim=0)&&e.name.toList.isEmpty)):=Lib.hid (by unfold nodeB;rw [decide_eq_true hle,Bool.true_and,if_neg o1,if_neg o2,if_neg o3])
 obtain⟨on,od⟩:=hr.num
 obtain⟨pn,pd⟩:=hr.den
 have hsz:=hr.name
 have hi:=Lib.hid (And.intro hr.num (And.intro hr.den hr.dim))
 clear hr
 have h1:((e.args.length:Int)!=argsN e.op)=false:=by simpa using hle
 have p1:(e.op==1)=false:=by simpa using o1
 have p2:(e.op==2)=false:=by simpa using o2
 have p3:(e.op==3)=false:=by simpa using o3
 clear hle o1 o2 o3
 go_enter Tryz.func220,Tryz.ntmps220
 go_wp2_with fail
 go_quiet ((go_at_call 229;exact Calls.quiet_eq (arity2_any _ _)))
 go_wp2_with fail
 all_goals
  go_returns
  exact⟨ret_bool (by rw [HF.out];simp [*]),.of_below belB⟩
theorem node2_any(e:Ex)(a:Option Addr)(cap:Nat)(w:World)(hr:ExRng e)(ht:Tab w):(Calls Tryz.prog 220 #[exV e (.slice a e.args.length cap)] w fun r w'=>r= .returned (.bool (nodeB e))∧w.Grows w'):=by
 by_cases hle:(e.args.length:Int)=argsN e.op
 ·by_cases o1:e.op=1
  ·exact node2_lit e a cap w hr ht hle o1
  ·by_cases o2:e.op=2
   ·exact node2_name e a cap w hr hle o2
   ·by_cases o3:e.op=3
    ·exact node2_best e a cap w hr hle o3
    ·exact node2_op e a cap w hr hle o1 o2 o3
 ·exact node2_len e a cap w hr hle
theorem form_clos:∀args w,(callFunc 221 args).run Tryz.prog w= .ok (.enter 221 args) w:=enters_of Tryz.func221 (by kernel_rfl) rfl
theorem form2_walk(S:Nat→Prop)(n:Nat):∀(e:Ex),e.size≤n→∀(v:Value) (w:World),RepE S w e v→Tab w→
 Calls Tryz.prog 203 #[exV e v] w fun r w'=>r= .returned (.bool (formedB e))∧w.Grows w':=by
 induction n with
 |zero=>intro e he;have:=e.size_pos;omega
 |succ n ih=>
  intro e he v w h ht
  have HR:=Lib.hid h
  have HT:=Lib.hid ht
  have HN:Hid (_):=Lib.hid (fun a cap w (ht:Tab w)=>node2_any e a cap w h.rng ht)
  have hany:=formeds_any e.args
  have hfn:=formed_node e
  obtain⟨a,cap,rfl⟩:=h.form0
  have HC:Hid (∀w',w.Grows w'→Calls Tryz.prog 198 #[.slice a e.args.length cap,.func (.func 221) #[] #[]] w' fun r w''=>r= .returned (.bool (!formedsB e.args))∧w'.Grows w''):=Lib.hid (fun w' hg=>by
   have:=containsE_any S 221 #[] form_clos e (.slice a e.args.length cap) (fun k=>!formedB (e.arg k)) w' (HR.out.grows hg) (Lib.hid (fun k hk ak ck w1 hg1 hR1=>by
    have hsm:=e.size_arg k hk
    have IH:=Lib.hid (fun w2 h1 h2=>ih (e.arg k) (by omega) (.slice ak (e.arg k).args.length ck) w2 h1 h2)
    have hT1:=Lib.hid ((HT.out.grows hg).grows hg1)
    have HR1:=Lib.hid hR1
    dsimp only
    generalize formedB (e.arg k)=q at *
    clear hany hfn HN HR HT hR1 ih hg hg1
    generalize e.arg k=x at *
    show Calls Tryz.prog 221 #[exV x (.slice ak x.args.length ck)] w1 _
    go_enter Tryz.func221,Tryz.ntmps221
    go_wp2_with (go_at_call 203;refine(IH.out _ (HR1.out.alloc _) (hT1.out.alloc _)).mono ?_;rintro e' w' ⟨rfl,bs,d,rfl⟩)
    go_returns
    exact⟨ret_bool rfl,.of_below belB⟩))
   rw [show(List.range e.args.length).any (fun k=>!formedB (e.arg k))=!formedsB e.args by rw [hany,Bool.not_not];rfl]at this
   exact this)
  clear hany ih h ht
  generalize formedsB e.args=q at *
  generalize nodeB e=p at *
  have HF:=Lib.hid hfn
  clear hfn
  cases p
  ·go_enter Tryz.func203,Tryz.ntmps203
   go_wp2_with (go_at_call 220;refine(HN.out _ _ _ (HT.out.alloc _)).mono ?_;rintro e' w' ⟨rfl,bs,d,rfl⟩)
   go_returns
   exact⟨ret_bool (by rw [HF.out];rfl),.of_below belB⟩
  ·go_enter Tryz.func203,Tryz.ntmps203
   go_wp2_with (first|(go_at_call 220;refine(HN.out _ _ _ (HT.out.alloc _)).mono ?_;rintro e' w' ⟨rfl,bs,d,rfl⟩)|(go_at_call 198;refine(HC.out _ (.of_below belB)).mono ?_;rintro e' w' ⟨rfl,bs2,d2,rfl⟩))
   go_returns
   exact⟨ret_bool (by rw [HF.out];simp),.of_below belB⟩
theorem form2_any(S:Nat→Prop)(e:Ex)(v:Value)(w:World)(h:RepE S w e v)(ht:Tab w):Calls Tryz.prog 203 #[exV e v] w fun r w'=>r= .returned (.bool (formedB e))∧w.Grows w':=form2_walk S e.size e (Nat.le_refl _) v w h ht
theorem ValidExpr2_any(S:Nat→Prop)(e:Ex)(v:Value)(w:World)(h:Hid (RepE S w e v))(hbig:Hid (e.size≤2305843009213693952))(ht:Hid (Tab w)):Calls Tryz.prog 183 #[exV e v] w fun r w'=>r= .returned (.bool (validB e))∧w.Grows w':=by
 obtain⟨a,cap,hv⟩:=h.out.form0
 subst hv
 by_cases c1:(e.depth:Int)≤10
 ·by_cases c2:(e.size:Int)≤60
  ·go_enter Tryz.func183,Tryz.ntmps183
   go_wp2_with ((first|(go_at_call 201;refine(Depth2_walk S e.size e (Nat.le_refl _) _ _ (h.out.alloc _) hbig).mono ?_;rintro r w' ⟨rfl,bs,d,rfl⟩)|(go_at_call 202;refine(Size2_walk S e.size e (Nat.le_refl _) _ _ ((h.out.alloc _).grow _ _) hbig).mono ?_;rintro r w' ⟨rfl,bs2,d2,rfl⟩)|(go_at_call 203;refine(form2_any S e _ _ ((h.out.alloc _).grow _ _) ((ht.out.alloc _).grow _ _)).mono ?_;rintro r w' ⟨rfl,bs3,d3,rfl⟩)))
   exact fz48
  ·go_enter Tryz.func183,Tryz.ntmps183
   go_wp2_with ((first|(go_at_call 201;refine(Depth2_walk S e.size e (Nat.le_refl _) _ _ (h.out.alloc _) hbig).mono ?_;rintro r w' ⟨rfl,bs,d,rfl⟩)|(go_at_call 202;refine(Size2_walk S e.size e (Nat.le_refl _) _ _ ((h.out.alloc _).grow _ _) hbig).mono ?_;rintro r w' ⟨rfl,bs2,d2,rfl⟩)|(go_at_call 203;refine(form2_any S e _ _ ((h.out.alloc _).grow _ _) ((ht.out.alloc _).grow _ _)).mono ?_;rintro r w' ⟨rfl,bs3,d3,rfl⟩)))
   exact fz51
 ·go_enter Tryz.func183,Tryz.ntmps183
  go_wp2_with ((first|(go_at_call 201;refine(Depth2_walk S e.size e (Nat.le_refl _) _ _ (h.out.alloc _) hbig).mono ?_;rintro r w' ⟨rfl,bs,d,rfl⟩)|(go_at_call 202;refine(Size2_walk S e.size e (Nat.le_refl _) _ _ ((h.out.alloc _).grow _ _) hbig).mono ?_;rintro r w' ⟨rfl,bs2,d2,rfl⟩)|(go_at_call 203;refine(form2_any S e _ _ ((h.out.alloc _).grow _ _) ((ht.out.alloc _).grow _ _)).mono ?_;rintro r w' ⟨rfl,bs3,d3,rfl⟩)))
  exact fz50
end Go.Proofs.YtaghhncnicbedaaGreatDoor
