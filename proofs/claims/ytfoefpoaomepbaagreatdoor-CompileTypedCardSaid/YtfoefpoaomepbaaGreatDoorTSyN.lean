import Derived.Test.YtfoefpoaomepbaaGreatDoorTForm
import Derived.Test.YtfoefpoaomepbaaGreatDoorTAdd
import Derived.Lib.OthersKept
import Derived.BigRegion
import Derived.Deep.CutBlock
import Derived.Deep.CutRange
import Derived.Deep.DeepCutAuto
import Derived.Shelf.Spec.BitsCarry
import Derived.Lib.Hide
set_option linter.all false
set_option maxHeartbeats 16000000
set_option maxRecDepth 1000000
namespace Go.Proofs.YtfoefpoaomepbaaGreatDoor
open Go.RowKit
def bfrom(s:ByteArray)(k:Nat):List UInt8:=s.data.toList.drop k
theorem bfrom_step{s:ByteArray}{k:Nat}(h:k<s.size):bfrom s k=s[k]::bfrom s (k+1):=by
 unfold bfrom
 have h2:k<s.data.toList.length:=by simpa using h
 rw [List.drop_eq_getElem_cons h2]
 congr 1
theorem bfrom_end{s:ByteArray}{k:Nat}(h:s.size≤k):bfrom s k= []:=by
 unfold bfrom
 exact List.drop_eq_nil_of_le (by simpa using h)
def natV(r:Option Int):Value:=match r with|some x=>.tuple #[.int .i64 x,.bool true]|none=>.tuple #[.int .i64 0,.bool false]
theorem natG_bd:∀(l:List UInt8) (x y:Int),0≤x→natG x l=some y→x≤y∧y≤(x+1)*10 ^ l.length-1
 | [],x,y,h0,h=>by simp [natG]at h;subst h;simp
 |c::r,x,y,h0,h=>by
  simp only [natG]at h
  split at h
  ·rename_i hd
   simp only [digc,Bool.and_eq_true,decide_eq_true_eq]at hd
   have ih:=natG_bd r _ y (by omega) h
   refine⟨by omega,Int.le_trans ih.2 ?_⟩
   have hp:(0:Int)<10 ^ r.length:=Int.pow_pos (by omega)
   have e:(x+1)*10 ^ (c::r).length=((x+1)*10)*10 ^ r.length:=by rw [List.length_cons,Int.pow_succ,Int.mul_comm (10 ^ r.length) 10,Int.mul_assoc]
   rw [e]
   have:=Int.mul_le_mul_of_nonneg_right (show 10*x+((c.toNat:Int)-48)+1≤(x+1)*10 by omega) (Int.le_of_lt hp)
   omega
  ·cases h
theorem natural2_any(s:ByteArray)(w:World)(hs:s.size≤9):Calls Tryz.prog 204 #[.string s] w fun e w'=>e= .returned (natV (natG 0 s.data.toList))∧w=w':=by
 have h00:s.data.toList=bfrom s 0:=rfl
 rw [h00]
 clear h00
 go_enter Tryz.func204,Tryz.ntmps204
 go_wp2
 go_loop [2,4] (fun v2 v4=>∃k:Nat,∃x:Int,k≤s.size∧v4= .int .i64 k∧v2= .int .i64 x∧0≤x∧x<10 ^ k∧Hid (natG x (bfrom s k)=natG 0 (bfrom s 0))) (fun _ v4=>s.size-(intOf v4).toNat)
 case atStart=>exact⟨0,0,Nat.zero_le _,rfl,rfl,by omega,by simp,Lib.hid rfl⟩
 case round=>
  obtain⟨k,x,hk,rfl,rfl,hx0,hx1,hg⟩:=hrel
  have hb:(10:Int) ^ k≤1000000000:=by
   have:=Nat.pow_le_pow_right (show 1≤10 by omega) (show k≤9 by omega)
   have h2:((10 ^ k:Nat):Int)≤((10 ^ 9:Nat):Int):=by exact_mod_cast this
   simpa using h2
  have hx2:x≤1000000000:=by omega
  have HX:=Lib.hid hx1
  clear hx1 hb
  by_cases hk2:k<s.size
  ·have hst:=bfrom_step hk2
   cases hD:digc (s[k].toNat:Int)
   ·have HG:Hid (natG 0 (bfrom s 0)=none):=Lib.hid (by rw [←hg.out,hst];simp only [natG];rw [hD];rfl)
    clear hst hg
    go_wp2_with (go_at_call 213;(with_reducible refine(digit2_any _ _).mono ?_);rintro e w' ⟨rfl,rfl⟩;simp only [hD])
    go_returns
    exact⟨by rw [HG.out];rfl,rfl⟩
   ·have hd:48≤(s[k].toNat:Int)∧(s[k].toNat:Int)≤57:=by simpa [digc]using hD
    have HG:Hid (natG (10*x+((s[k].toNat:Int)-48)) (bfrom s (k+1))=natG 0 (bfrom s 0)):=Lib.hid (by rw [←hg.out,hst];simp only [natG];rw [hD];rfl)
    clear hst hg
    obtain⟨d,hdd⟩:∃d:Int,(s[k].toNat:Int)=d:=⟨_,rfl⟩
    rw [hdd]at hd hD HG
    obtain⟨hd1,hd2⟩:=hd
    have hw:IntKind.u8.wrap (d-48)=d-48:=by simp only [IntKind.wrap_u8];omega
    go_wp2_with (go_at_call 213;(with_reducible refine(digit2_any _ _).mono ?_);rintro e w' ⟨rfl,rfl⟩;simp only [hD,hdd])
    go_round
    case rel=>exact⟨k+1,_,by omega,by go_num,rfl,by omega,by rw [Int.pow_succ];have:=HX.out;omega,HG⟩
    case measure=>simp [intOf];omega
  ·have HG:Hid (natG 0 (bfrom s 0)=some x):=Lib.hid (by rw [←hg.out,bfrom_end (by omega)];rfl)
   clear hg
   obtain rfl:k=s.size:=by omega
   go_wp2_with fail
   go_returns
   exact⟨by rw [HG.out];rfl,rfl⟩

def tlD:Code→Code
 | .seq _ b=>b
 |c=>c
def decFV(r:Option (Int × Int × Int)):Value:=match r with|some t=>.tuple #[.agg #[.int .i64 t.1,.int .i64 t.2.1],.int .i64 t.2.2,.bool true]|none=>.tuple #[.agg #[.int .i64 0,.int .i64 0],.int .i64 0,.bool false]
theorem iter_grow(Y:World)(bs:Array Obj)(d:Nat)(s:ByteArray)(pos:Nat):(Y.grow bs d).iter s pos=Y.grow (bs.push (.stringIter s pos)) d:=by
 simp [World.iter,World.grow,World.alloc]
theorem grow_at(Y:World)(bs:Array Obj)(d j:Nat):(Y.grow bs d).heap[Y.heap.size+j]? =bs[j]?:=by
 simp only [World.grow]
 rw [Array.getElem?_append_right (by omega)]
 congr 1;omega
theorem iterAt_grow(Y:World)(bs:Array Obj)(d j:Nat)(s:ByteArray)(pos:Nat):(Y.grow bs d).iterAt (Y.heap.size+j) s pos=Y.grow (bs.setIfInBounds j (.stringIter s pos)) d:=by
 simp only [World.iterAt,World.grow]
 congr 1
 rw [Array.setIfInBounds_append_right (by omega)]
 congr 2;omega
theorem redP_go{p:Int}{f:Nat}{A B:Int}(h:A % p=0∧B % p=0):redP p (f+1) A B=redP p f (A / p) (B / p):=by rw [redP,if_pos h]
theorem redP_stop{p:Int}{f:Nat}{A B:Int}(h:¬(A % p=0∧B % p=0)):redP p f A B=(A,B):=by
 cases f with
 |zero=>rfl
 |succ f=>rw [redP,if_neg h]
def RedAt(p:Int)(f0:Nat)(A0 B0:Int)(f:Nat)(A B:Int):Prop:=redP p f A B=redP p f0 A0 B0∧B<p ^ f
theorem RedAt.next{p:Int}{f0:Nat}{A0 B0:Int}{f:Nat}{A B:Int}(hp:2≤p)(h:RedAt p f0 A0 B0 f A B)(hB:1≤B)(hm:A % p=0∧B % p=0):∃g,RedAt p f0 A0 B0 g (A / p) (B / p)∧1≤B / p∧B / p<B:=by
 obtain⟨h1,h2⟩:=h
 cases f with
 |zero=>simp at h2;omega
 |succ g=>
  have e:=Int.mul_ediv_add_emod B p
  rw [hm.2,Int.add_zero]at e
  have hq:1≤B / p:=by
   rcases Int.lt_or_le (B / p) 1 with h|h
   ·have:p*(B / p)≤p*0:=Int.mul_le_mul_of_nonneg_left (by omega) (by omega)
    omega
   ·exact h
  refine⟨g,⟨by rw [←h1,redP_go hm], ?_⟩,hq, ?_⟩
  ·rw [Int.pow_succ,←e,Int.mul_comm _ p]at h2
   exact Int.lt_of_mul_lt_mul_left h2 (by omega)
  ·have:2*(B / p)≤p*(B / p):=Int.mul_le_mul_of_nonneg_right hp (by omega)
   omega
theorem idx_two(w:World):(Instr.index 243 (.agg #[.int .i64 2,.int .i64 5]) (.int .i64 0)).run Tryz.prog w= .ok (.int .i64 2) w:=by simp [Instr.index,go_sem]
theorem idx_five(w:World):(Instr.index 243 (.agg #[.int .i64 2,.int .i64 5]) (.int .i64 1)).run Tryz.prog w= .ok (.int .i64 5) w:=by simp [Instr.index,go_sem]
def boxD(w0 wr:World):Nat:=match wr.cell? ⟨w0.heap.size,1,none⟩with|some (.int _ z)=>z.toNat|_=>0
theorem dec_T3(b:ByteArray)(x p m:Int)(w:World)(bs:Array Obj)(d:Nat)(hb:b.size≤4)(hasc:∀i (h:i<b.size),(b[i]'h).toNat<128)(hx0:0≤x)(hx1:x≤1000000000)(hp0:0≤p)(hp1:p≤10000)
 (u0 u1 u4 u5 u6 u8 u10 u12 u13 u14 u15 u16 u17 u18 u19 u20 u21 u22 u23 u24 u25 u26 u27 u28 u29 u30 u31 u32 u33 u34 u35 u36 u37 u38 u39 u40 u41 u42 u43 u44 u45 u46 u47 u48 u49 u50 u51 u52 u53 u54 u55 u56 u57 u58 u59 u60 u61 u62 u63 u64 u65 u66 u67 u68 u69 u70 u71 u72 u73 u74 u75 u76 u77 u78 u79 u80 u81 u82 u83 u84 u85 u86 u87 u88 u89 u90 u91 u92 u93 u94 u95 u96 u97 u98 u99 u100 u101 u102 u103 u104 u105 u106 u107 u108 u109 u110 u111 u112 u113 u114 u115 u116 u117 u118 u119 u120 u121 u122 u123 u124 u125 u126 u127 u128 u129 u130 u131 u132 u133 u134 u135 u136 u137 u138 u139 u140 u141:Value) :
 Code.wp Tryz.prog (tlD (tlD (tlD (tlD (tlD (tlD (tlD (tlD (Tryz.f187.body.getD .skip))))))))) (bodyPost Tryz.prog Tryz.f187 (fun e w'=>e= .returned (decFV (some ((redD (x*10 ^ b.size+p) (10 ^ b.size)).1,(redD (x*10 ^ b.size+p) (10 ^ b.size)).2,m)))∧w.Grows w')) {tmps:=#[u0,u1,.pointer (some ⟨w.heap.size,0,none⟩),.int .i64 m,u4,u5,u6,.string b,u8,.int .i64 x,u10,.int .i64 p,u12,u13,u14,u15,u16,u17,u18,u19,u20,u21,u22,u23,u24,u25,u26,u27,u28,u29,u30,u31,u32,u33,u34,u35,u36,u37,u38,u39,u40,u41,u42,u43,u44,u45,u46,u47,u48,u49,u50,u51,u52,u53,u54,u55,u56,u57,u58,u59,u60,u61,u62,u63,u64,u65,u66,u67,u68,u69,u70,u71,u72,u73,u74,u75,u76,u77,u78,u79,u80,u81,u82,u83,u84,u85,u86,u87,u88,u89,u90,u91,u92,u93,u94,u95,u96,u97,u98,u99,u100,u101,u102,u103,u104,u105,u106,u107,u108,u109,u110,u111,u112,u113,u114,u115,u116,u117,u118,u119,u120,u121,u122,u123,u124,u125,u126,u127,u128,u129,u130,u131,u132,u133,u134,u135,u136,u137,u138,u139,u140,u141],defers:=[]} ((w.alloc (.cells #[.int .i64 0,.int .i64 0] 24)).grow bs d):=by
 conv=>arg 2;whnf
 have HASC:=Lib.hid hasc
 clear hasc
 go_wp2_with fail
 go_loopw [9] (fun v9 wr=>∃k:Nat,∃X E:Int,∃bs' d',k≤b.size∧v9= .int .i64 X∧wr=((w.alloc (.cells #[.int .i64 0,.int .i64 E] 24)).grow bs' d')∧bs'[bs.size]? =some (.stringIter b k)∧Hid (X=x*10 ^ k∧E=10 ^ k)∧0≤X∧X≤10000000000000∧1≤E∧E≤10000) (fun _ wr=>b.size-wr.iterPos (w.heap.size+1+bs.size))
 case atStart=>exact⟨0,x,1,_,_,Nat.zero_le _,rfl,iter_grow _ _ _ _ _,by simp,Lib.hid (by simp),by omega,by omega,by omega,by omega⟩
 case round=>
  obtain⟨k,X,E,bs2,d2,hk,rfl,rfl,hit,HXE,hX0,hX1,hE0,hE1⟩:=hrel
  have hkk:((w.alloc (.cells #[.int .i64 0,.int .i64 E] 24)).grow bs2 d2).heap[w.heap.size+1+bs.size]? =some (.stringIter b k):=by
   have:=grow_at (w.alloc (.cells #[.int .i64 0,.int .i64 E] 24)) bs2 d2 bs.size
   rw [World.size_alloc]at this
   rw [this];exact hit
  by_cases hlt:k<b.size
  ·have hnext:∀ty,(Instr.next (.pointer (some ⟨w.heap.size+1+bs.size,0,none⟩)) true ty).run Tryz.prog ((w.alloc (.cells #[.int .i64 0,.int .i64 E] 24)).grow bs2 d2)=_:=fun ty=>Lib.run_next_ascii_at _ _ b k ty hkk hlt (HASC.out k hlt)
   have hia:=iterAt_grow (w.alloc (.cells #[.int .i64 0,.int .i64 E] 24)) bs2 d2 bs.size b (k+1)
   rw [World.size_alloc]at hia
   rw [hia]at hnext
   have hbl:bs.size<bs2.size:=(Array.getElem?_eq_some_iff.1 hit).1
   have hit2:(bs2.setIfInBounds bs.size (.stringIter b (k+1)))[bs.size]? =some (.stringIter b (k+1)):=by simp [hbl]
   have hpos:((w.alloc (.cells #[.int .i64 0,.int .i64 E] 24)).grow bs2 d2).iterPos (w.heap.size+1+bs.size)=k:=by simp [World.iterPos,hkk]
   generalize bs2.setIfInBounds bs.size (.stringIter b (k+1))=bs3 at hnext hit2
   have hk3:k≤3:=by omega
   have hE3:E≤1000:=by
    have:=HXE.out.2
    obtain h|h|h|h:k=0∨k=1∨k=2∨k=3:=by omega
    all_goals rw [this,h];decide
   have hX3:X≤1000000000000:=by
    have e:=HXE.out.1
    rw [←HXE.out.2]at e
    have h1:x*E≤1000000000*E:=Int.mul_le_mul_of_nonneg_right hx1 (by omega)
    omega
   have w6:IntKind.i64.wrap (10*X)=10*X:=IntWalk.i64_in _ (by omega)
   have w7:IntKind.i64.wrap (10*E)=10*E:=IntWalk.i64_in _ (by omega)
   have HIT:=Lib.hid (And.intro hit2 (And.intro hkk hpos))
   clear hit hit2 hkk hpos hia
   go_wp2_with fail
   clear hnext
   go_region
   go_wp2_with fail
   go_roundw
   case rel=>exact⟨k+1,_,_,_,_,by omega,rfl,rfl,HIT.out.1,Lib.hid ⟨by rw [Int.pow_succ,←Int.mul_assoc,←HXE.out.1,Int.mul_comm],by rw [Int.pow_succ,←HXE.out.2,Int.mul_comm]⟩,by omega,by omega,by omega,by omega⟩
   case measure=>
    have h2:∀dd,((w.alloc (.cells #[.int .i64 0,.int .i64 (10*E)] 24)).grow bs3 dd).heap[w.heap.size+1+bs.size]? =some (.stringIter b (k+1)):=fun dd=>by
     have:=grow_at (w.alloc (.cells #[.int .i64 0,.int .i64 (10*E)] 24)) bs3 dd bs.size
     rw [World.size_alloc,HIT.out.1]at this
     exact this
    have h1:=HIT.out.2.2
    rw [h1]
    simp only [World.iterPos,h2]
    omega
  ·have hnext:∀ty,(Instr.next (.pointer (some ⟨w.heap.size+1+bs.size,0,none⟩)) true ty).run Tryz.prog ((w.alloc (.cells #[.int .i64 0,.int .i64 E] 24)).grow bs2 d2)=_:=fun ty=>Lib.run_next_end_at _ _ b k ty hkk hlt
   obtain rfl:k=b.size:=by omega
   have hN:X+p≤10000000010000:=by omega
   have HXP:=Lib.hid (show X+p=x*10 ^ b.size+p by rw [HXE.out.1])
   have HE:=Lib.hid HXE.out.2
   have h214:E<2 ^ 14:=by rw [show(2:Int) ^ 14=16384 by decide];omega
   clear hkk hit HXE hlt
   go_wp2_with fail
   clear hnext
   go_loopw [114] (fun v114 wr=>∃A B:Int,∃bs' d',wr=((w.alloc (.cells #[.int .i64 A,.int .i64 B] 24)).grow bs' d')∧0≤A∧A≤100000000000000∧1≤B∧B≤10000∧
    ((v114= .int .i64 0∧A=X+p∧B=E)∨(v114= .int .i64 1∧Hid ((A,B)=redP 2 14 (X+p) E))∨(v114= .int .i64 2∧Hid ((A,B)=redD (X+p) E)))) (fun v114 _=>2-(intOf v114).toNat)
   case atStart=>exact⟨_,_,_,_,rfl,by omega,by omega,by omega,by omega,.inl ⟨rfl,rfl,rfl⟩⟩
   case round=>
    obtain⟨A0,B0,bs4,d4,rfl,hA00,hA01,hB00,hB01,hcase⟩:=hrel
    rcases hcase with ⟨rfl,rfl,rfl⟩|⟨rfl,H1⟩|⟨rfl,H2⟩
    ·have idx2:=idx_two
     have idx5:=idx_five
     go_wp2_with fail
     clear idx2 idx5
     go_loopw [117] (fun _ wr=>∃f:Nat,∃A B:Int,∃bs' d',wr=((w.alloc (.cells #[.int .i64 A,.int .i64 B] 24)).grow bs' d')∧Hid (RedAt 2 14 (X+p) B0 f A B)∧0≤A∧A≤100000000000000∧1≤B∧B≤10000) (fun _ wr=>boxD w wr)
     case atStart=>exact⟨14,_,_,_,_,rfl,Lib.hid ⟨rfl,h214⟩,by omega,by omega,by omega,by omega⟩
     case round=>
      obtain⟨f,A,B,bs3,d3,rfl,HRD,hA0,hA1,hB0,hB1⟩:=hrel
      have e0:=Int.tmod_eq_emod_of_nonneg (b:=2) (show 0≤A from hA0)
      have e1:=Int.tmod_eq_emod_of_nonneg (b:=2) (show 0≤B by omega)
      have e2:=Int.tdiv_eq_ediv_of_nonneg (b:=2) (show 0≤A from hA0)
      have e3:=Int.tdiv_eq_ediv_of_nonneg (b:=2) (show 0≤B by omega)
      have E:=Lib.hid (And.intro e0 (And.intro e1 (And.intro e2 e3)))
      by_cases ha:A % 2=0
      ·by_cases hb2:B % 2=0
       ·obtain⟨g,hg1,hg2,hg3⟩:=HRD.out.next (by omega) hB0 ⟨ha,hb2⟩
        have HG:=Lib.hid hg1
        have hq0:0≤A / 2:=by omega
        have hq1:A / 2≤100000000000000:=by omega
        have m0:(A.tmod 2==0)=true:=by rw [e0];simpa using ha
        have m1:(B.tmod 2==0)=true:=by rw [e1];simpa using hb2
        have w2:IntKind.i64.wrap (A.tdiv 2)=A / 2:=by rw [e2];exact IntWalk.i64_in _ (by omega)
        have w3:IntKind.i64.wrap (B.tdiv 2)=B / 2:=by rw [e3];exact IntWalk.i64_in _ (by omega)
        have w4:IntKind.i64.wrap (A.tmod 2)=0:=by rw [e0,ha];rfl
        have w5:IntKind.i64.wrap (B.tmod 2)=0:=by rw [e1,hb2];rfl
        clear hg1
        clear e0 e1 e2 e3
        go_wp2_with fail
        refine TG.begin 11 (fun w'=>w'.cell? ⟨w.heap.size,1,none⟩=some (.int .i64 B)) (by kernel_rfl) (by kernel_rfl) (by simp [go_sem]) (fun hS=>?_)
        refine TG.tkB 0 hS ?_
        refine TG.tkB 2 hS ?_
        refine TG.tkB 4 hS ?_
        refine TG.tkB 6 hS ?_
        refine TG.tkB 5 hS ?_
        refine TG.tkB 7 hS ?_
        refine TG.one (i:=1) (by kernel_rfl) rfl (fun K1 hK1=>?_)
        go_simp
        refine TG.go hK1 ?_ (fun hS=>?_)
        focus
         (try dsimp only)
         simp [go_sem]
        clear hK1 K1
        (try simp only [nS])
        refine TG.tkB 3 hS ?_
        refine TG.tkB 8 hS ?_
        refine TG.one (i:=9) (by kernel_rfl) rfl (fun K1 hK1=>?_)
        go_simp
        refine TG.go hK1 ?_ (fun hS=>?_)
        focus
         (try dsimp only)
         simp [go_sem]
        clear hK1 K1
        (try simp only [nS])
        refine TG.tkB 10 hS ?_
        refine TG.one (i:=11) (by kernel_rfl) rfl (fun K1 hK1=>?_)
        go_simp
        refine hK1 _ _ (fun h=>absurd rfl h) (TG.done (by kernel_rfl) ?_)
        clear hK1 K1 hS
        (try simp only [nS])
        go_wp2_with fail
        go_roundw
        case rel=>exact⟨g,_,_,_,_,rfl,HG,by omega,by omega,by omega,by omega⟩
        case measure=>simp [boxD,go_sem];omega
       ·have HX:=Lib.hid (redP_stop (p:=2) (f:=f) (A:=A) (B:=B) (fun h=>hb2 h.2))
        have m0:(A.tmod 2==0)=true:=by rw [e0];simpa using ha
        have m1:(B.tmod 2==0)=false:=by rw [e1];simpa using hb2
        have w4:IntKind.i64.wrap (A.tmod 2)=0:=by rw [e0,ha];rfl
        have w5:IntKind.i64.wrap (B.tmod 2)=B.tmod 2:=IntWalk.i64_in _ (by rw [e1];omega)
        have hbd:1≤B.tmod 2:=by rw [e1];omega
        clear e0 e1 e2 e3
        have hb3:(B % 2==0)=false:=by simpa using hb2
        go_wp2_with fail
        go_roundw
        case rel=>exact⟨_,_,_,_,rfl,by omega,by omega,by omega,by omega,.inr (.inl ⟨rfl,Lib.hid (by rw [←HRD.out.1,HX.out])⟩)⟩
        case measure=>simp [intOf]
      ·have HX:=Lib.hid (redP_stop (p:=2) (f:=f) (A:=A) (B:=B) (fun h=>ha h.1))
       have m0:(A.tmod 2==0)=false:=by rw [e0];simpa using ha
       have w4:IntKind.i64.wrap (A.tmod 2)=A.tmod 2:=IntWalk.i64_in _ (by rw [e0];omega)
       have hbd:1≤A.tmod 2:=by rw [e0];omega
       clear e0 e1 e2 e3
       have ha3:(A % 2==0)=false:=by simpa using ha
       go_wp2_with fail
       go_roundw
       case rel=>exact⟨_,_,_,_,rfl,by omega,by omega,by omega,by omega,.inr (.inl ⟨rfl,Lib.hid (by rw [←HRD.out.1,HX.out])⟩)⟩
       case measure=>simp [intOf]
    ·have idx2:=idx_two
     have idx5:=idx_five
     go_wp2_with fail
     clear idx2 idx5
     go_loopw [117] (fun _ wr=>∃f:Nat,∃A B:Int,∃bs' d',wr=((w.alloc (.cells #[.int .i64 A,.int .i64 B] 24)).grow bs' d')∧Hid (RedAt 5 6 A0 B0 f A B)∧0≤A∧A≤100000000000000∧1≤B∧B≤10000) (fun _ wr=>boxD w wr)
     case atStart=>exact⟨6,_,_,_,_,rfl,Lib.hid ⟨rfl,(by rw [show(5:Int) ^ 6=15625 by decide];omega)⟩,by omega,by omega,by omega,by omega⟩
     case round=>
      obtain⟨f,A,B,bs3,d3,rfl,HRD,hA0,hA1,hB0,hB1⟩:=hrel
      have e0:=Int.tmod_eq_emod_of_nonneg (b:=5) (show 0≤A from hA0)
      have e1:=Int.tmod_eq_emod_of_nonneg (b:=5) (show 0≤B by omega)
      have e2:=Int.tdiv_eq_ediv_of_nonneg (b:=5) (show 0≤A from hA0)
      have e3:=Int.tdiv_eq_ediv_of_nonneg (b:=5) (show 0≤B by omega)
      have E:=Lib.hid (And.intro e0 (And.intro e1 (And.intro e2 e3)))
      by_cases ha:A % 5=0
      ·by_cases hb2:B % 5=0
       ·obtain⟨g,hg1,hg2,hg3⟩:=HRD.out.next (by omega) hB0 ⟨ha,hb2⟩
        have HG:=Lib.hid hg1
        have hq0:0≤A / 5:=by omega
        have hq1:A / 5≤100000000000000:=by omega
        have m0:(A.tmod 5==0)=true:=by rw [e0];simpa using ha
        have m1:(B.tmod 5==0)=true:=by rw [e1];simpa using hb2
        have w2:IntKind.i64.wrap (A.tdiv 5)=A / 5:=by rw [e2];exact IntWalk.i64_in _ (by omega)
        have w3:IntKind.i64.wrap (B.tdiv 5)=B / 5:=by rw [e3];exact IntWalk.i64_in _ (by omega)
        have w4:IntKind.i64.wrap (A.tmod 5)=0:=by rw [e0,ha];rfl
        have w5:IntKind.i64.wrap (B.tmod 5)=0:=by rw [e1,hb2];rfl
        clear hg1
        clear e0 e1 e2 e3
        go_wp2_with fail
        refine TG.begin 11 (fun w'=>w'.cell? ⟨w.heap.size,1,none⟩=some (.int .i64 B)) (by kernel_rfl) (by kernel_rfl) (by simp [go_sem]) (fun hS=>?_)
        refine TG.tkB 0 hS ?_
        refine TG.tkB 2 hS ?_
        refine TG.tkB 4 hS ?_
        refine TG.tkB 6 hS ?_
        refine TG.tkB 5 hS ?_
        refine TG.tkB 7 hS ?_
        refine TG.one (i:=1) (by kernel_rfl) rfl (fun K1 hK1=>?_)
        go_simp
        refine TG.go hK1 ?_ (fun hS=>?_)
        focus
         (try dsimp only)
         simp [go_sem]
        clear hK1 K1
        (try simp only [nS])
        refine TG.tkB 3 hS ?_
        refine TG.tkB 8 hS ?_
        refine TG.one (i:=9) (by kernel_rfl) rfl (fun K1 hK1=>?_)
        go_simp
        refine TG.go hK1 ?_ (fun hS=>?_)
        focus
         (try dsimp only)
         simp [go_sem]
        clear hK1 K1
        (try simp only [nS])
        refine TG.tkB 10 hS ?_
        refine TG.one (i:=11) (by kernel_rfl) rfl (fun K1 hK1=>?_)
        go_simp
        refine hK1 _ _ (fun h=>absurd rfl h) (TG.done (by kernel_rfl) ?_)
        clear hK1 K1 hS
        (try simp only [nS])
        go_wp2_with fail
        go_roundw
        case rel=>exact⟨g,_,_,_,_,rfl,HG,by omega,by omega,by omega,by omega⟩
        case measure=>simp [boxD,go_sem];omega
       ·have HX:=Lib.hid (redP_stop (p:=5) (f:=f) (A:=A) (B:=B) (fun h=>hb2 h.2))
        have m0:(A.tmod 5==0)=true:=by rw [e0];simpa using ha
        have m1:(B.tmod 5==0)=false:=by rw [e1];simpa using hb2
        have w4:IntKind.i64.wrap (A.tmod 5)=0:=by rw [e0,ha];rfl
        have w5:IntKind.i64.wrap (B.tmod 5)=B.tmod 5:=IntWalk.i64_in _ (by rw [e1];omega)
        have hbd:1≤B.tmod 5:=by rw [e1];omega
        clear e0 e1 e2 e3
        have hb3:(B % 5==0)=false:=by simpa using hb2
        go_wp2_with fail
        go_roundw
        case rel=>exact⟨_,_,_,_,rfl,by omega,by omega,by omega,by omega,.inr (.inr ⟨rfl,Lib.hid (by unfold redD;rw [←H1.out,←HX.out];exact HRD.out.1)⟩)⟩
        case measure=>simp [intOf]
      ·have HX:=Lib.hid (redP_stop (p:=5) (f:=f) (A:=A) (B:=B) (fun h=>ha h.1))
       have m0:(A.tmod 5==0)=false:=by rw [e0];simpa using ha
       have w4:IntKind.i64.wrap (A.tmod 5)=A.tmod 5:=IntWalk.i64_in _ (by rw [e0];omega)
       have hbd:1≤A.tmod 5:=by rw [e0];omega
       clear e0 e1 e2 e3
       have ha3:(A % 5==0)=false:=by simpa using ha
       go_wp2_with fail
       go_roundw
       case rel=>exact⟨_,_,_,_,rfl,by omega,by omega,by omega,by omega,.inr (.inr ⟨rfl,Lib.hid (by unfold redD;rw [←H1.out,←HX.out];exact HRD.out.1)⟩)⟩
       case measure=>simp [intOf]
    ·go_wp2_with fail
     go_returns
     refine⟨?_,.of_below belB⟩
     have e:=H2.out
     rw [HXP.out,HE.out]at e
     rw [←e]
     rfl

theorem natG_ascii:∀(l:List UInt8) (x y:Int),natG x l=some y→∀c∈l,c.toNat<128
 | [],_,_,_,c,hc=>by cases hc
 |e::r,x,y,h,c,hc=>by
  simp only [natG]at h
  split at h
  ·rename_i hd
   rcases List.mem_cons.1 hc with rfl|hc
   ·simp only [digc,Bool.and_eq_true,decide_eq_true_eq]at hd;omega
   ·exact natG_ascii r _ y h c hc
  ·cases h
def decN(a b:ByteArray)(m:Int):Option (Int × Int × Int):=(natG 0 a.data.toList).bind fun x=>(natG 0 b.data.toList).map fun p=>((redD (x*10 ^ b.size+p) (10 ^ b.size)).1,(redD (x*10 ^ b.size+p) (10 ^ b.size)).2,m)
theorem dec_T2(a b:ByteArray)(m:Int)(w:World)(bs:Array Obj)(d:Nat)(ha:a.size≤9)(hb:b.size≤4)
 (u0 u1 u4 u5 u8 u9 u10 u11 u12 u13 u14 u15 u16 u17 u18 u19 u20 u21 u22 u23 u24 u25 u26 u27 u28 u29 u30 u31 u32 u33 u34 u35 u36 u37 u38 u39 u40 u41 u42 u43 u44 u45 u46 u47 u48 u49 u50 u51 u52 u53 u54 u55 u56 u57 u58 u59 u60 u61 u62 u63 u64 u65 u66 u67 u68 u69 u70 u71 u72 u73 u74 u75 u76 u77 u78 u79 u80 u81 u82 u83 u84 u85 u86 u87 u88 u89 u90 u91 u92 u93 u94 u95 u96 u97 u98 u99 u100 u101 u102 u103 u104 u105 u106 u107 u108 u109 u110 u111 u112 u113 u114 u115 u116 u117 u118 u119 u120 u121 u122 u123 u124 u125 u126 u127 u128 u129 u130 u131 u132 u133 u134 u135 u136 u137 u138 u139 u140 u141:Value) :
 Code.wp Tryz.prog (tlD (tlD (tlD (tlD (tlD (Tryz.f187.body.getD .skip)))))) (bodyPost Tryz.prog Tryz.f187 (fun e w'=>e= .returned (decFV (decN a b m))∧w.Grows w')) {tmps:=#[u0,u1,.pointer (some ⟨w.heap.size,0,none⟩),.int .i64 m,u4,u5,.string a,.string b,u8,u9,u10,u11,u12,u13,u14,u15,u16,u17,u18,u19,u20,u21,u22,u23,u24,u25,u26,u27,u28,u29,u30,u31,u32,u33,u34,u35,u36,u37,u38,u39,u40,u41,u42,u43,u44,u45,u46,u47,u48,u49,u50,u51,u52,u53,u54,u55,u56,u57,u58,u59,u60,u61,u62,u63,u64,u65,u66,u67,u68,u69,u70,u71,u72,u73,u74,u75,u76,u77,u78,u79,u80,u81,u82,u83,u84,u85,u86,u87,u88,u89,u90,u91,u92,u93,u94,u95,u96,u97,u98,u99,u100,u101,u102,u103,u104,u105,u106,u107,u108,u109,u110,u111,u112,u113,u114,u115,u116,u117,u118,u119,u120,u121,u122,u123,u124,u125,u126,u127,u128,u129,u130,u131,u132,u133,u134,u135,u136,u137,u138,u139,u140,u141],defers:=[]} ((w.alloc (.cells #[.int .i64 0,.int .i64 0] 24)).grow bs d):=by
 have HA:Hid _:=Lib.hid (fun w=>natural2_any a w (by omega))
 have HB:Hid _:=Lib.hid (fun w=>natural2_any b w (by omega))
 unfold decN
 cases hna:natG 0 a.data.toList with
 |none=>
  rw [hna]at HA
  simp only [natV,Option.bind_none]at HA ⊢
  clear hna
  cases hnb:natG 0 b.data.toList with
  |none=>
   rw [hnb]at HB
   simp only [natV]at HB
   clear hnb
   conv=>arg 2;whnf
   go_wp2_with ((go_at_call 204;first|(with_reducible refine(HA.out _).mono ?_)|(with_reducible refine(HB.out _).mono ?_));rintro e w' ⟨rfl,rfl⟩)
   go_returns
   exact⟨rfl,.of_below belB⟩
  |some p=>
   rw [hnb]at HB
   simp only [natV]at HB
   clear hnb
   conv=>arg 2;whnf
   go_wp2_with ((go_at_call 204;first|(with_reducible refine(HA.out _).mono ?_)|(with_reducible refine(HB.out _).mono ?_));rintro e w' ⟨rfl,rfl⟩)
   go_returns
   exact⟨rfl,.of_below belB⟩
 |some x=>
  have bx:=natG_bd _ 0 x (by omega) hna
  rw [hna]at HA
  simp only [natV,Option.bind_some]at HA ⊢
  clear hna
  cases hnb:natG 0 b.data.toList with
  |none=>
   rw [hnb]at HB
   simp only [natV,Option.map_none]at HB ⊢
   clear hnb
   conv=>arg 2;whnf
   go_wp2_with ((go_at_call 204;first|(with_reducible refine(HA.out _).mono ?_)|(with_reducible refine(HB.out _).mono ?_));rintro e w' ⟨rfl,rfl⟩)
   go_returns
   exact⟨rfl,.of_below belB⟩
  |some p=>
   have bp:=natG_bd _ 0 p (by omega) hnb
   have hasc:=natG_ascii _ _ _ hnb
   have hx:x≤1000000000:=by
    have h1:a.data.toList.length=a.size:=by simp
    rw [h1]at bx
    have h2:=Nat.pow_le_pow_right (show 1≤10 by omega) ha
    have h3:((10 ^ a.size:Nat):Int)≤((10 ^ 9:Nat):Int):=by exact_mod_cast h2
    simp at h3
    omega
   have hp:p≤10000:=by
    have h1:b.data.toList.length=b.size:=by simp
    rw [h1]at bp
    have h2:=Nat.pow_le_pow_right (show 1≤10 by omega) hb
    have h3:((10 ^ b.size:Nat):Int)≤((10 ^ 4:Nat):Int):=by exact_mod_cast h2
    simp at h3
    omega
   have hx0:=bx.1
   have hp0:=bp.1
   rw [hnb]at HB
   simp only [natV,Option.map_some]at HB ⊢
   clear hnb bx bp
   have hasc2:∀i (h:i<b.size),(b[i]'h).toNat<128:=fun i h=>hasc _ (by
    have:b[i]'h=b.data.toList[i]'(by simpa using h):=by simp;rfl
    rw [this];exact List.getElem_mem _)
   have HH:=Lib.hid (And.intro hasc2 (And.intro hx (And.intro hp (And.intro hx0 hp0))))
   clear hasc hasc2 hx hp hx0 hp0
   conv=>arg 2;whnf
   apply wp_seq_k
   intro K1 hK1
   have HK1:=Lib.hid hK1
   clear hK1
   go_wp2_with ((go_at_call 204;first|(with_reducible refine(HA.out _).mono ?_)|(with_reducible refine(HB.out _).mono ?_));rintro e w' ⟨rfl,rfl⟩)
   refine HK1.out _ _ ?_
   clear HK1 K1
   apply wp_seq_k
   intro K2 hK2
   have HK2:=Lib.hid hK2
   clear hK2
   go_wp2_with ((go_at_call 204;first|(with_reducible refine(HA.out _).mono ?_)|(with_reducible refine(HB.out _).mono ?_));rintro e w' ⟨rfl,rfl⟩)
   refine HK2.out _ _ ?_
   clear HK2 K2
   apply wp_seq_k
   intro K3 hK3
   have HK3:=Lib.hid hK3
   clear hK3
   go_wp2_with ((go_at_call 204;first|(with_reducible refine(HA.out _).mono ?_)|(with_reducible refine(HB.out _).mono ?_));rintro e w' ⟨rfl,rfl⟩)
   refine HK3.out _ _ ?_
   exact dec_T3 b x p m w bs _ hb HH.out.1 HH.out.2.2.2.1 HH.out.2.1 HH.out.2.2.2.2 HH.out.2.2.1 _ _ _ _ _ _ _ _ _ _ _ _ _ _ _ _ _ _ _ _ _ _ _ _ _ _ _ _ _ _ _ _ _ _ _ _ _ _ _ _ _ _ _ _ _ _ _ _ _ _ _ _ _ _ _ _ _ _ _ _ _ _ _ _ _ _ _ _ _ _ _ _ _ _ _ _ _ _ _ _ _ _ _ _ _ _ _ _ _ _ _ _ _ _ _ _ _ _ _ _ _ _ _ _ _ _ _ _ _ _ _ _ _ _ _ _ _ _ _ _ _ _ _ _ _ _ _ _ _ _ _ _ _ _ _ _ _

theorem times2_any(a b:Nat)(w:World)(h1:a<18446744073709551616)(h2:b<18446744073709551616) :
 Calls Tryz.prog 176 #[.int .u64 a,.int .u64 b] w fun e w'=>e= .returned (.agg #[.int .u64 (hiW (a*b)),.int .u64 (loW (a*b))])∧w.Grows w':=by
 have H:Hid (∀w,Calls Tryz.prog 192 #[.int .u64 a,.int .u64 b] w fun e w'=>e= .returned (.tuple #[.int .u64 (hiW (a*b)),.int .u64 (loW (a*b))])∧w'=w):=Tryz.bits_Mul64 a b h1 h2
 generalize a*b=n at *
 go_enter Tryz.func176,Tryz.ntmps176
 go_wp2_with fail
 refine(H.out _).mono ?_
 rintro e w' ⟨rfl,rfl⟩
 clear H
 go_wp2_with fail
 go_returns
 exact⟨rfl,.of_below belB⟩
theorem add64_nat(x y c:Nat)(hc:c≤1)(w:World):(callFunc 193 #[.int .u64 x,.int .u64 y,.int .u64 c]).run Tryz.prog w=
 .ok (.value (.tuple #[.int .u64 (((x+y+c) % 18446744073709551616:Nat):Int),.int .u64 (((x+y+c) / 18446744073709551616:Nat):Int)])) w:=by
 rw [run_callFunc_extern Tryz.func193 (by kernel_rfl) (by kernel_rfl) (by kernel_rfl) (e:=add64Entry) (by kernel_rfl),run_add64 x y c (by omega) (by omega) (by omega) (by omega)]
 simp only [Result.andThen]
 congr 5<;>omega
theorem sub64_nat(x y b:Nat)(hb:b≤1)(w:World):(callFunc 194 #[.int .u64 x,.int .u64 y,.int .u64 b]).run Tryz.prog w=
 .ok (.value (.tuple #[.int .u64 (((x+18446744073709551616-y-b) % 18446744073709551616:Nat):Int),.int .u64 ((if x<y+b then 1 else 0:Nat):Int)])) w:=by
 rw [run_callFunc_extern Tryz.func194 (by kernel_rfl) (by kernel_rfl) (by kernel_rfl) (e:=sub64Entry) (by kernel_rfl),run_sub64 x y b hb]
 rfl
def hiN(n:Nat):Nat:=n / 18446744073709551616
def loN(n:Nat):Nat:=n % 18446744073709551616
theorem add_words(a b:Nat)(h:a+b<340282366920938463463374607431768211456) :
 (loN a+loN b+0) % 18446744073709551616=loN (a+b)∧(loN a+loN b+0) / 18446744073709551616≤1∧(hiN a+hiN b+(loN a+loN b+0) / 18446744073709551616) % 18446744073709551616=hiN (a+b):=by
 unfold loN hiN;omega
theorem sub_words(a b:Nat)(h:b≤a)(ha:a<340282366920938463463374607431768211456) :
 (loN a+18446744073709551616-loN b-0) % 18446744073709551616=loN (a-b)∧(if loN a<loN b+0 then 1 else 0)≤1∧(hiN a+18446744073709551616-hiN b-(if loN a<loN b+0 then 1 else 0)) % 18446744073709551616=hiN (a-b):=by
 unfold loN hiN;split<;>omega
theorem plus2_any(a b:Nat)(w:World)(h:a+b<340282366920938463463374607431768211456) :
 Calls Tryz.prog 178 #[.agg #[.int .u64 (hiW a),.int .u64 (loW a)],.agg #[.int .u64 (hiW b),.int .u64 (loW b)]] w fun e w'=>e= .returned (.agg #[.int .u64 (hiW (a+b)),.int .u64 (loW (a+b))])∧w.Grows w':=by
 obtain⟨e1,e2,e3⟩:=add_words a b h
 obtain⟨c,hc⟩:∃c,(loN a+loN b+0) / 18446744073709551616=c:=⟨_,rfl⟩
 have ha:∀w,(callFunc 193 #[.int .u64 (loW a),.int .u64 (loW b),.int .u64 0]).run Tryz.prog w= .ok (.value (.tuple #[.int .u64 (loW (a+b)),.int .u64 (c:Int)])) w:=by
  intro w;have:=add64_nat (loN a) (loN b) 0 (by omega) w;rw [e1,hc]at this;exact this
 have hb:∀w,(callFunc 193 #[.int .u64 (hiW a),.int .u64 (hiW b),.int .u64 (c:Int)]).run Tryz.prog w= .ok (.value (.tuple #[.int .u64 (hiW (a+b)),.int .u64 ((hiN a+hiN b+c) / 18446744073709551616:Nat)])) w:=by
  intro w;have:=add64_nat (hiN a) (hiN b) c (by omega) w;rw [←hc,e3,hc]at this;exact this
 generalize(((hiN a+hiN b+c) / 18446744073709551616:Nat):Int)=z at *
 generalize(c:Int)=c' at *
 clear e1 e2 e3 hc h
 generalize hiW a=A at *
 generalize hiW b=B at *
 generalize loW a=La at *
 generalize loW b=Lb at *
 generalize hiW (a+b)=S at *
 generalize loW (a+b)=T at *
 go_enter Tryz.func178,Tryz.ntmps178
 go_wp2_with fail
 go_returns
 exact⟨rfl,.of_below belB⟩
theorem minus2_any(a b:Nat)(w:World)(h:b≤a)(h2:a<340282366920938463463374607431768211456) :
 Calls Tryz.prog 180 #[.agg #[.int .u64 (hiW a),.int .u64 (loW a)],.agg #[.int .u64 (hiW b),.int .u64 (loW b)]] w fun e w'=>e= .returned (.agg #[.int .u64 (hiW (a-b)),.int .u64 (loW (a-b))])∧w.Grows w':=by
 obtain⟨e1,e2,e3⟩:=sub_words a b h h2
 obtain⟨c,hc⟩:∃c,(if loN a<loN b+0 then 1 else 0)=c:=⟨_,rfl⟩
 have ha:∀w,(callFunc 194 #[.int .u64 (loW a),.int .u64 (loW b),.int .u64 0]).run Tryz.prog w= .ok (.value (.tuple #[.int .u64 (loW (a-b)),.int .u64 (c:Int)])) w:=by
  intro w;have:=sub64_nat (loN a) (loN b) 0 (by omega) w;rw [e1,hc]at this;exact this
 have hb:∀w,(callFunc 194 #[.int .u64 (hiW a),.int .u64 (hiW b),.int .u64 (c:Int)]).run Tryz.prog w= .ok (.value (.tuple #[.int .u64 (hiW (a-b)),.int .u64 ((if hiN a<hiN b+c then 1 else 0:Nat):Int)])) w:=by
  intro w;have:=sub64_nat (hiN a) (hiN b) c (by omega) w;rw [←hc,e3,hc]at this;exact this
 generalize((if hiN a<hiN b+c then 1 else 0:Nat):Int)=z at *
 generalize(c:Int)=c' at *
 clear e1 e2 e3 hc h h2
 generalize hiW a=A at *
 generalize hiW b=B at *
 generalize loW a=La at *
 generalize loW b=Lb at *
 generalize hiW (a-b)=S at *
 generalize loW (a-b)=T at *
 go_enter Tryz.func180,Tryz.ntmps180
 go_wp2_with fail
 go_returns
 exact⟨rfl,.of_below belB⟩
def wless(ah al bh bl:Int):Bool:=decide (ah<bh) || ((ah==bh)&&decide (al<bl))
theorem wless_nat(a b:Nat):wless (hiW a) (loW a) (hiW b) (loW b)=decide (a<b):=by
 unfold wless
 rw [Bool.eq_iff_iff]
 simp only [Bool.or_eq_true,Bool.and_eq_true,decide_eq_true_eq,beq_iff_eq]
 unfold hiW loW
 omega
theorem less2_any(ah al bh bl:Int)(w:World) :
 Calls Tryz.prog 179 #[.agg #[.int .u64 ah,.int .u64 al],.agg #[.int .u64 bh,.int .u64 bl]] w fun e w'=>e= .returned (.bool (wless ah al bh bl))∧w.Grows w':=by
 by_cases c1:ah<bh
 ·go_enter Tryz.func179,Tryz.ntmps179
  go_wp2_with fail
  go_returns
  exact⟨ret_bool (by simp [wless,c1]),.of_below belB⟩
 ·by_cases c2:ah=bh
  ·subst c2
   go_enter Tryz.func179,Tryz.ntmps179
   go_wp2_with fail
   go_returns
   exact⟨ret_bool (by simp [wless]),.of_below belB⟩
  ·have c3:(ah==bh)=false:=by simpa using c2
   go_enter Tryz.func179,Tryz.ntmps179
   go_wp2_with fail
   go_returns
   exact⟨ret_bool (by simp [wless,c1,c3]),.of_below belB⟩
theorem over2_core(H L d q r Q:Int)(w:World)(a1:(d==0)=false)(a2:1≤d)(h0:0≤H)
 (a3:IntKind.u64.wrap (H.tdiv d)=Q)
 (HD:Hid (∀w,Calls Tryz.prog 189 #[.int .u64 (H % d),.int .u64 L,.int .u64 d] w fun e w'=>e= .returned (.tuple #[.int .u64 q,.int .u64 r])∧w.Grows w')) :
 Calls Tryz.prog 184 #[.agg #[.int .u64 H,.int .u64 L],.int .u64 d] w fun e w'=>e= .returned (.agg #[.int .u64 Q,.int .u64 q])∧w.Grows w':=by
 go_enter Tryz.func184,Tryz.ntmps184
 go_wp2_with fail
 go_region
 go_wp2_with fail
 refine(HD.out _).mono ?_
 rintro e w' ⟨rfl,bs,dr,rfl⟩
 clear HD
 go_wp2_with fail
 go_returns
 exact⟨rfl,.of_below belB⟩
theorem over2_any(n d:Nat)(w:World)(h1:n<340282366920938463463374607431768211456)(h2:d<18446744073709551616)(h0:0<d) :
 Calls Tryz.prog 184 #[.agg #[.int .u64 (hiW n),.int .u64 (loW n)],.int .u64 d] w fun e w'=>e= .returned (.agg #[.int .u64 (hiW (n / d)),.int .u64 (loW (n / d))])∧w.Grows w':=by
 obtain⟨e1,e2,e3⟩:=over_nat n d h0 h2
 have hh:=hiW_bd n h1
 refine over2_core _ _ _ _ (remI n d) _ w (by simp;omega) (by omega) hh.1 ?_ ?_
 ·have:(hiW n).tdiv d=((n / 18446744073709551616 / d:Nat):Int):=by
   rw [Int.tdiv_eq_ediv_of_nonneg hh.1];unfold hiW;simp
  rw [this,←e1]
  have h3:n / d≤n:=Nat.div_le_self _ _
  unfold hiW
  generalize n / d=m at *
  exact IntWalk.u64_in _ (by omega)
 ·intro w
  have:=Div64_any (n / 18446744073709551616 % d) (n % 18446744073709551616) d w (Nat.mod_lt _ h0) (Nat.mod_lt _ (by omega)) h2
  rw [←e2,←e3]at this
  simpa [hiW,loW,remI]using this
theorem rem_core(H L d q r:Int)(w:World)(a1:(d==0)=false)(a2:1≤d)(h0:0≤H)
 (HD:Hid (∀w,Calls Tryz.prog 189 #[.int .u64 (H % d),.int .u64 L,.int .u64 d] w fun e w'=>e= .returned (.tuple #[.int .u64 q,.int .u64 r])∧w.Grows w')) :
 Calls Tryz.prog 182 #[.int .u64 H,.int .u64 L,.int .u64 d] w fun e w'=>e= .returned (.int .u64 r)∧w.Grows w':=by
 go_enter Tryz.func182,Tryz.ntmps182
 go_wp2_with fail
 refine(HD.out _).mono ?_
 rintro e w' ⟨rfl,bs,dr,rfl⟩
 clear HD
 go_wp2_with fail
 go_returns
 exact⟨rfl,.of_below belB⟩
theorem Rem64_any(n d:Nat)(w:World)(h1:n<340282366920938463463374607431768211456)(h2:d<18446744073709551616)(h0:0<d) :
 Calls Tryz.prog 182 #[.int .u64 (hiW n),.int .u64 (loW n),.int .u64 d] w fun e w'=>e= .returned (.int .u64 (remI n d))∧w.Grows w':=by
 obtain⟨e1,e2,e3⟩:=over_nat n d h0 h2
 have hh:=hiW_bd n h1
 refine rem_core _ _ _ (loW (n / d)) _ w (by simp;omega) (by omega) hh.1 ?_
 intro w
 have:=Div64_any (n / 18446744073709551616 % d) (n % 18446744073709551616) d w (Nat.mod_lt _ h0) (Nat.mod_lt _ (by omega)) h2
 rw [←e2,←e3]at this
 simpa [hiW,loW,remI]using this
def witV(neg:Bool)(h l k d:Int):Value:=if(h !=0)=true∨1000000000000000<l∨(k !=0)=true∨1000000000<d then .tuple #[.agg #[.int .i64 0,.int .i64 0],.int .i64 2]else .tuple #[.agg #[.int .i64 (if neg then -l else l),.int .i64 d],.int .i64 0]
theorem within2_any(neg:Bool)(h l k d:Int)(w:World)(hl0:0≤l)(hd0:0≤d) :
 Calls Tryz.prog 183 #[.bool neg,.agg #[.int .u64 h,.int .u64 l],.agg #[.int .u64 k,.int .u64 d]] w fun e w'=>e= .returned (witV neg h l k d)∧w.Grows w':=by
 by_cases c1:(h !=0)=true
 ·go_enter Tryz.func183,Tryz.ntmps183
  go_wp2_with fail
  go_returns
  exact⟨by rw [witV,if_pos (.inl c1)],.of_below belB⟩
 ·have c1':(h !=0)=false:=by simpa using c1
  by_cases c2:(1000000000000000:Int)<l
  ·clear c1
   go_enter Tryz.func183,Tryz.ntmps183
   go_wp2_with fail
   go_returns
   exact⟨by rw [witV,if_pos (.inr (.inl c2))],.of_below belB⟩
  ·have c2':decide ((1000000000000000:Int)<l)=false:=by simpa using c2
   by_cases c3:(k !=0)=true
   ·clear c1
    go_enter Tryz.func183,Tryz.ntmps183
    go_wp2_with fail
    go_returns
    exact⟨by rw [witV,if_pos (.inr (.inr (.inl c3)))],.of_below belB⟩
   ·have c3':(k !=0)=false:=by simpa using c3
    by_cases c4:(1000000000:Int)<d
    ·clear c1 c3
     go_enter Tryz.func183,Tryz.ntmps183
     go_wp2_with fail
     go_returns
     exact⟨by rw [witV,if_pos (.inr (.inr (.inr c4)))],.of_below belB⟩
    ·have c4':decide ((1000000000:Int)<d)=false:=by simpa using c4
     have Hn:=Lib.hid (show ¬((h !=0)=true∨1000000000000000<l∨(k !=0)=true∨1000000000<d)by
      rintro(x|x|x|x)
      ·exact c1 x
      ·exact c2 x
      ·exact c3 x
      ·exact c4 x)
     clear c1 c3
     cases neg
     ·go_enter Tryz.func183,Tryz.ntmps183
      go_wp2_with fail
      go_returns
      exact⟨by rw [witV,if_neg Hn.out];rfl,.of_below belB⟩
     ·go_enter Tryz.func183,Tryz.ntmps183
      go_wp2_with fail
      go_returns
      exact⟨by rw [witV,if_neg Hn.out];rfl,.of_below belB⟩
def frV(r:Int × Int × Int):Value:=.tuple #[.agg #[.int .i64 r.1,.int .i64 r.2.1],.int .i64 r.2.2]
theorem Neg2_any(n d:Int)(w:World)(h1:-9223372036854775808≤n)(h2:n≤9223372036854775807)(h3:-9223372036854775808≤d)(h4:d≤9223372036854775807) :
 Calls Tryz.prog 137 #[.agg #[.int .i64 n,.int .i64 d]] w fun e w'=>e= .returned (frV (negF n d))∧w.Grows w':=by
 have hv:=Lib.hid (fun w=>Valid2_any n d w h1 h2 h3 h4)
 generalize hx:vfrac n d=b at *
 cases b
 focus
  have HR:=Lib.hid (show negF n d=(0,0,1)by unfold negF;rw [hx];rfl)
 rotate_left
 focus
  have HR:=Lib.hid (show negF n d=(-n,d,0)by unfold negF;rw [hx];rfl)
  obtain⟨k1,k2,k3,k4⟩:=vfrac_bd hx
 rotate_left
 all_goals
  clear hx
  go_enter Tryz.func137,Tryz.ntmps137
  go_wp2_with fail
  refine(hv.out _).mono ?_
  rintro e w' ⟨rfl,bs,dr,rfl⟩
  clear hv
  go_wp2_with fail
  go_returns
  exact⟨by rw [HR.out];rfl,.of_below belB⟩
theorem gcdI_nat(a b:Nat):gcdI a b=(Nat.gcd a b:Nat):=by unfold gcdI;simp
theorem frV_wit(b:Bool)(p q:Nat):witV b (hiW p) (loW p) (hiW q) (loW q)=frV (if 1000000000000000<p∨1000000000<q then(0,0,2)else(if b then -(p:Int)else p,q,0)):=by
 unfold witV hiW loW
 by_cases c:1000000000000000<p∨1000000000<q
 ·rw [if_pos c,if_pos (by
   by_cases ha:p / 18446744073709551616=0
   ·by_cases hb:q / 18446744073709551616=0
    ·omega
    ·right;right;left;simp;omega
   ·left;simp;omega)]
  rfl
 ·have ha:p / 18446744073709551616=0:=by omega
  have hb:q / 18446744073709551616=0:=by omega
  have hc:p % 18446744073709551616=p:=by omega
  have hd:q % 18446744073709551616=q:=by omega
  rw [if_neg c,if_neg (by rw [ha,hb,hc,hd];simp;omega),hc,hd]
  rfl
theorem quo_u64{a g:Int}(h0:0≤a)(h1:a<18446744073709551616)(hg:1≤g):IntKind.u64.wrap (a.tdiv g)=a / g:=by
 rw [Int.tdiv_eq_ediv_of_nonneg h0]
 have h2:=Int.ediv_nonneg h0 (show 0≤g by omega)
 have h3:a / g≤a:=Int.ediv_le_self g h0
 exact IntWalk.u64_in _ (by omega)
theorem quotient2_core(neg:Bool)(a b c d g h H L K M n1 n2 n3:Int)(w:World)(g0:(g==0)=false)(h0:(h==0)=false)(g1:1≤g)(hh1:1≤h)
 (a0:0≤a) (b0:0≤b) (c0:0≤c) (d0:0≤d) (a1:a<18446744073709551616) (b1:b<18446744073709551616) (c1:c<18446744073709551616) (d1:d<18446744073709551616)
 (G1:Hid (∀w,Calls Tryz.prog 181 #[.int .u64 a,.int .u64 d] w fun e w'=>e= .returned (.int .u64 g)∧w.Grows w'))
 (G2:Hid (∀w,Calls Tryz.prog 181 #[.int .u64 c,.int .u64 b] w fun e w'=>e= .returned (.int .u64 h)∧w.Grows w'))
 (T1:Hid (∀w,Calls Tryz.prog 176 #[.int .u64 (a / g),.int .u64 (c / h)] w fun e w'=>e= .returned (.agg #[.int .u64 H,.int .u64 L])∧w.Grows w'))
 (T2:Hid (∀w,Calls Tryz.prog 176 #[.int .u64 (b / h),.int .u64 (d / g)] w fun e w'=>e= .returned (.agg #[.int .u64 K,.int .u64 M])∧w.Grows w'))
 (W:Hid (∀w,Calls Tryz.prog 183 #[.bool neg,.agg #[.int .u64 H,.int .u64 L],.agg #[.int .u64 K,.int .u64 M]] w fun e w'=>e= .returned (.tuple #[.agg #[.int .i64 n1,.int .i64 n2],.int .i64 n3])∧w.Grows w')) :
 Calls Tryz.prog 185 #[.bool neg,.int .u64 a,.int .u64 b,.int .u64 c,.int .u64 d] w fun e w'=>e= .returned (.tuple #[.agg #[.int .i64 n1,.int .i64 n2],.int .i64 n3])∧w.Grows w':=by
 go_enter Tryz.func185,Tryz.ntmps185
 go_wp2_with (first|(go_at_call 181;(with_reducible refine(G1.out _).mono ?_);rintro e w' ⟨rfl,bs,dr,rfl⟩;clear G1)|(go_at_call 181;(with_reducible refine(G2.out _).mono ?_);rintro e w' ⟨rfl,bs2,dr2,rfl⟩;clear G2))
 have gz:¬g=0:=by omega
 have hz:¬h=0:=by omega
 refine TG.begin 19 (fun _=>True) (by kernel_rfl) (by kernel_rfl) trivial (fun hS=>?_)
 refine TG.tkB 0 hS ?_
 refine TG.tkB 1 hS ?_
 refine TG.tkB 2 hS ?_
 refine TG.takeV (i:=3) (v:=.int .u64 (a / g)) rfl (by kernel_rfl) (by kernel_rfl) (by kernel_rfl) (by decide) (fun _ _ _ h=>h) rfl hS ?_ ?_
 focus
  intro wS hSw
  go_simp
  exact quo_u64 a0 a1 g1
 (try simp only [nS])
 refine TG.tkB 4 hS ?_
 refine TG.tkB 5 hS ?_
 refine TG.takeV (i:=6) (v:=.int .u64 (c / h)) rfl (by kernel_rfl) (by kernel_rfl) (by kernel_rfl) (by decide) (fun _ _ _ h=>h) rfl hS ?_ ?_
 focus
  intro wS hSw
  go_simp
  exact quo_u64 c0 c1 hh1
 (try simp only [nS])
 refine TG.tkB 8 hS ?_
 refine TG.tkB 9 hS ?_
 refine TG.takeV (i:=10) (v:=.int .u64 (b / h)) rfl (by kernel_rfl) (by kernel_rfl) (by kernel_rfl) (by decide) (fun _ _ _ h=>h) rfl hS ?_ ?_
 focus
  intro wS hSw
  go_simp
  exact quo_u64 b0 b1 hh1
 (try simp only [nS])
 refine TG.tkB 11 hS ?_
 refine TG.tkB 12 hS ?_
 refine TG.takeV (i:=13) (v:=.int .u64 (d / g)) rfl (by kernel_rfl) (by kernel_rfl) (by kernel_rfl) (by decide) (fun _ _ _ h=>h) rfl hS ?_ ?_
 focus
  intro wS hSw
  go_simp
  exact quo_u64 d0 d1 g1
 (try simp only [nS])
 refine TG.one (i:=7) (by kernel_rfl) rfl (fun K1 hK1=>?_)
 go_simp
 go_at_call 176
 refine(T1.out _).mono ?_
 rintro e' wA ⟨rfl,b7,d7,rfl⟩
 refine TG.go hK1 trivial (fun hS=>?_)
 clear hK1 K1 T1
 (try simp only [nS])
 refine TG.one (i:=14) (by kernel_rfl) rfl (fun K1 hK1=>?_)
 go_simp
 go_at_call 176
 refine(T2.out _).mono ?_
 rintro e' wA ⟨rfl,b8,d8,rfl⟩
 refine TG.go hK1 trivial (fun hS=>?_)
 clear hK1 K1 T2
 (try simp only [nS])
 refine TG.one (i:=15) (by kernel_rfl) rfl (fun K1 hK1=>?_)
 go_simp
 go_at_call 183
 refine(W.out _).mono ?_
 rintro e' wA ⟨rfl,b9,d9,rfl⟩
 refine TG.go hK1 trivial (fun hS=>?_)
 clear hK1 K1 W
 (try simp only [nS])
 refine TG.tkB 16 hS ?_
 refine TG.tkB 17 hS ?_
 refine TG.one (i:=18) (by kernel_rfl) rfl (fun K1 hK1=>?_)
 go_simp
 refine TG.go hK1 trivial (fun hS=>?_)
 clear hK1 K1
 (try simp only [nS])
 refine TG.one (i:=19) (by kernel_rfl) rfl (fun K1 hK1=>?_)
 go_simp
 refine hK1 _ _ (fun h=>absurd rfl h) (TG.done (by kernel_rfl) ?_)
 clear hK1 K1 hS
 (try simp only [nS])
 go_wp2_with fail
 go_returns
 exact⟨rfl,.of_below belB⟩
theorem prdX_comm(d m k n:Nat):d / Nat.gcd m d*(k / Nat.gcd n k)=prdX d m k n:=by
 unfold prdX;rw [Nat.gcd_comm m d,Nat.gcd_comm n k]
theorem ediv_nat(a b:Nat):(a:Int) / (b:Int)=((a / b:Nat):Int):=by simp
theorem quotient2_any(neg:Bool)(n d m k:Nat)(w:World)(h1:n<18446744073709551616)(h2:d<18446744073709551616)(h3:m<18446744073709551616)(h4:k<18446744073709551616)(hd:0<d)(hk:0<k) :
 Calls Tryz.prog 185 #[.bool neg,.int .u64 n,.int .u64 d,.int .u64 m,.int .u64 k] w fun e w'=>e= .returned (frV (prdF neg n d m k))∧w.Grows w':=by
 have g1:0<Nat.gcd n k:=Nat.gcd_pos_of_pos_right _ hk
 have g2:0<Nat.gcd m d:=Nat.gcd_pos_of_pos_right _ hd
 have b1:n / Nat.gcd n k≤n:=Nat.div_le_self _ _
 have b2:m / Nat.gcd m d≤m:=Nat.div_le_self _ _
 have b3:d / Nat.gcd m d≤d:=Nat.div_le_self _ _
 have b4:k / Nat.gcd n k≤k:=Nat.div_le_self _ _
 refine quotient2_core neg n d m k (Nat.gcd n k:Nat) (Nat.gcd m d:Nat) (hiW (prdX n k m d)) (loW (prdX n k m d)) (hiW (prdX d m k n)) (loW (prdX d m k n)) _ _ _ w
  (by simp;omega) (by simp;omega) (by omega) (by omega) (by omega) (by omega) (by omega) (by omega) (by omega) (by omega) (by omega) (by omega)
  (fun w=>?_) (fun w=>?_) (fun w=>?_) (fun w=>?_) (fun w=>?_)
 ·have:=gcd2_any n k w (by omega) (by omega) (by omega) (by omega)
  rw [gcdI_nat]at this
  exact Calls.quietD this
 ·have:=gcd2_any m d w (by omega) (by omega) (by omega) (by omega)
  rw [gcdI_nat]at this
  exact Calls.quietD this
 ·rw [ediv_nat,ediv_nat]
  exact times2_any _ _ w (by omega) (by omega)
 ·rw [ediv_nat,ediv_nat,←prdX_comm]
  exact times2_any _ _ w (by omega) (by omega)
 ·have:=within2_any neg (hiW (prdX n k m d)) (loW (prdX n k m d)) (hiW (prdX d m k n)) (loW (prdX d m k n)) w (loW_bd _).1 (loW_bd _).1
  rw [frV_wit]at this
  exact this
theorem tw1_yes(g gg N cap:Nat)(b0:Int)(w:World)(hc:w.cell? ⟨g,6,none⟩=some (.slice (some ⟨gg,0,none⟩) N cap))
 (hN:2≤N) (hm:N≤140737488355328) (hc0:w.cell? ⟨gg,0,none⟩=some (.int .i64 b0)) (u:Value) (hu:w.cell? ⟨gg,13,none⟩=some u) (hf:w.frozen? ⟨gg,13,none⟩=false) :
 Calls Tryz.prog 63 #[.pointer (some ⟨g,0,none⟩),.int .i64 1] w fun e w'=>e= .returned (.tuple #[])∧w'=(w.setCell ⟨gg,13,none⟩ (.int .i64 b0)).drew:=by
 have hN1:(1:Int)<(N:Int):=by omega
 have hN0:(0:Int)<(N:Int):=by omega
 have hN2:0<N:=by omega
 have hN3:1<N:=by omega
 go_enter Tryz.func63,Tryz.ntmps63
 go_wp2_with fail
 refine TG.begin 13 (fun w'=>w'.cell? ⟨g,6,none⟩=some (.slice (some ⟨gg,0,none⟩) N cap)∧w'.cell? ⟨gg,0,none⟩=some (.int .i64 b0)) (by kernel_rfl) (by kernel_rfl) ?_ (fun hS=>?_)
 focus exact⟨hc,hc0⟩
 refine TG.tkB 0 hS ?_
 refine TG.tkB 1 hS ?_
 refine TG.tkB 2 hS ?_
 refine TG.tkB 3 hS ?_
 refine TG.tkB 4 hS ?_
 refine TG.tkB 5 hS ?_
 refine TG.tkB 6 hS ?_
 refine TG.tkB 7 hS ?_
 refine TG.tkB 8 hS ?_
 refine TG.tkB 9 hS ?_
 refine TG.tkB 10 hS ?_
 refine TG.tkB 11 hS ?_
 refine TG.tkB 12 hS ?_
 refine TG.one (i:=13) (by kernel_rfl) rfl (fun K1 hK1=>?_)
 go_simp
 refine hK1 _ _ (fun h=>absurd rfl h) (TG.done (by kernel_rfl) ?_)
 clear hK1 K1 hS
 (try simp only [nS])
 go_wp2_with fail
 go_returns
 exact⟨rfl,rfl⟩
theorem tw2_yes(g gg N cap:Nat)(b0:ByteArray)(w:World)(hc:w.cell? ⟨g,5,none⟩=some (.slice (some ⟨gg,0,none⟩) N cap))
 (hN:2≤N) (hm:N≤140737488355328) (hc0:w.cell? ⟨gg,0,none⟩=some (.string b0)) (u:Value) (hu:w.cell? ⟨gg,7,none⟩=some u) (hf:w.frozen? ⟨gg,7,none⟩=false) :
 Calls Tryz.prog 63 #[.pointer (some ⟨g,0,none⟩),.int .i64 2] w fun e w'=>e= .returned (.tuple #[])∧w'=(w.setCell ⟨gg,7,none⟩ (.string b0)).drew:=by
 have hN1:(1:Int)<(N:Int):=by omega
 have hN0:(0:Int)<(N:Int):=by omega
 have hN2:0<N:=by omega
 have hN3:1<N:=by omega
 go_enter Tryz.func63,Tryz.ntmps63
 go_wp2_with fail
 refine TG.begin 13 (fun w'=>w'.cell? ⟨g,5,none⟩=some (.slice (some ⟨gg,0,none⟩) N cap)∧w'.cell? ⟨gg,0,none⟩=some (.string b0)) (by kernel_rfl) (by kernel_rfl) ?_ (fun hS=>?_)
 focus exact⟨hc,hc0⟩
 refine TG.tkB 0 hS ?_
 refine TG.tkB 1 hS ?_
 refine TG.tkB 2 hS ?_
 refine TG.tkB 3 hS ?_
 refine TG.tkB 4 hS ?_
 refine TG.tkB 5 hS ?_
 refine TG.tkB 6 hS ?_
 refine TG.tkB 7 hS ?_
 refine TG.tkB 8 hS ?_
 refine TG.tkB 9 hS ?_
 refine TG.tkB 10 hS ?_
 refine TG.tkB 11 hS ?_
 refine TG.tkB 12 hS ?_
 refine TG.one (i:=13) (by kernel_rfl) rfl (fun K1 hK1=>?_)
 go_simp
 refine hK1 _ _ (fun h=>absurd rfl h) (TG.done (by kernel_rfl) ?_)
 clear hK1 K1 hS
 (try simp only [nS])
 go_wp2_with fail
 go_returns
 exact⟨rfl,rfl⟩
theorem tw4_yes(g gg N cap:Nat)(b0:Int)(w:World)(hc:w.cell? ⟨g,4,none⟩=some (.slice (some ⟨gg,0,none⟩) N cap))
 (hN:2≤N) (hm:N≤140737488355328) (hc0:w.cell? ⟨gg,0,none⟩=some (.int .i64 b0)) (u:Value) (hu:w.cell? ⟨gg,3,none⟩=some u) (hf:w.frozen? ⟨gg,3,none⟩=false) :
 Calls Tryz.prog 63 #[.pointer (some ⟨g,0,none⟩),.int .i64 4] w fun e w'=>e= .returned (.tuple #[])∧w'=(w.setCell ⟨gg,3,none⟩ (.int .i64 b0)).drew:=by
 have hN1:(1:Int)<(N:Int):=by omega
 have hN0:(0:Int)<(N:Int):=by omega
 have hN2:0<N:=by omega
 have hN3:1<N:=by omega
 go_enter Tryz.func63,Tryz.ntmps63
 go_wp2_with fail
 refine TG.begin 13 (fun w'=>w'.cell? ⟨g,4,none⟩=some (.slice (some ⟨gg,0,none⟩) N cap)∧w'.cell? ⟨gg,0,none⟩=some (.int .i64 b0)) (by kernel_rfl) (by kernel_rfl) ?_ (fun hS=>?_)
 focus exact⟨hc,hc0⟩
 refine TG.tkB 0 hS ?_
 refine TG.tkB 1 hS ?_
 refine TG.tkB 2 hS ?_
 refine TG.tkB 3 hS ?_
 refine TG.tkB 4 hS ?_
 refine TG.tkB 5 hS ?_
 refine TG.tkB 6 hS ?_
 refine TG.tkB 7 hS ?_
 refine TG.tkB 8 hS ?_
 refine TG.tkB 9 hS ?_
 refine TG.tkB 10 hS ?_
 refine TG.tkB 11 hS ?_
 refine TG.tkB 12 hS ?_
 refine TG.one (i:=13) (by kernel_rfl) rfl (fun K1 hK1=>?_)
 go_simp
 refine hK1 _ _ (fun h=>absurd rfl h) (TG.done (by kernel_rfl) ?_)
 clear hK1 K1 hS
 (try simp only [nS])
 go_wp2_with fail
 go_returns
 exact⟨rfl,rfl⟩
theorem tw5_yes(g gg N cap:Nat)(b0:Int)(w:World)(hc:w.cell? ⟨g,3,none⟩=some (.slice (some ⟨gg,0,none⟩) N cap))
 (hN:2≤N) (hm:N≤140737488355328) (hc0:w.cell? ⟨gg,0,none⟩=some (.int .i64 b0)) (u:Value) (hu:w.cell? ⟨gg,2,none⟩=some u) (hf:w.frozen? ⟨gg,2,none⟩=false) :
 Calls Tryz.prog 63 #[.pointer (some ⟨g,0,none⟩),.int .i64 5] w fun e w'=>e= .returned (.tuple #[])∧w'=(w.setCell ⟨gg,2,none⟩ (.int .i64 b0)).drew:=by
 have hN1:(1:Int)<(N:Int):=by omega
 have hN0:(0:Int)<(N:Int):=by omega
 have hN2:0<N:=by omega
 have hN3:1<N:=by omega
 go_enter Tryz.func63,Tryz.ntmps63
 go_wp2_with fail
 refine TG.begin 13 (fun w'=>w'.cell? ⟨g,3,none⟩=some (.slice (some ⟨gg,0,none⟩) N cap)∧w'.cell? ⟨gg,0,none⟩=some (.int .i64 b0)) (by kernel_rfl) (by kernel_rfl) ?_ (fun hS=>?_)
 focus exact⟨hc,hc0⟩
 refine TG.tkB 0 hS ?_
 refine TG.tkB 1 hS ?_
 refine TG.tkB 2 hS ?_
 refine TG.tkB 3 hS ?_
 refine TG.tkB 4 hS ?_
 refine TG.tkB 5 hS ?_
 refine TG.tkB 6 hS ?_
 refine TG.tkB 7 hS ?_
 refine TG.tkB 8 hS ?_
 refine TG.tkB 9 hS ?_
 refine TG.tkB 10 hS ?_
 refine TG.tkB 11 hS ?_
 refine TG.tkB 12 hS ?_
 refine TG.one (i:=13) (by kernel_rfl) rfl (fun K1 hK1=>?_)
 go_simp
 refine hK1 _ _ (fun h=>absurd rfl h) (TG.done (by kernel_rfl) ?_)
 clear hK1 K1 hS
 (try simp only [nS])
 go_wp2_with fail
 go_returns
 exact⟨rfl,rfl⟩
theorem tw0_yes(g gg N cap:Nat)(o nu de di:Int)(na:ByteArray)(va:Option Addr)(vn vc:Nat)(w:World)(hc:w.cell? ⟨g,6,none⟩=some (.slice (some ⟨gg,0,none⟩) N cap))
 (hN:1≤N) (hm:N≤140737488355328) (k1:w.cell? ⟨gg,1,none⟩=some (.int .i64 o)) (k2:w.cell? ⟨gg,2,none⟩=some (.int .i64 nu)) (k3:w.cell? ⟨gg,3,none⟩=some (.int .i64 de)) (k4:w.cell? ⟨gg,4,none⟩=some (.int .i64 di)) (k5:w.cell? ⟨gg,5,none⟩=some (.string na)) (k6:w.cell? ⟨gg,6,none⟩=some (.slice va vn vc))
 (u1 u2 u3 u4 u5 u6:Value) (j1:w.cell? ⟨gg,7,none⟩=some u1) (j2:w.cell? ⟨gg,8,none⟩=some u2) (j3:w.cell? ⟨gg,9,none⟩=some u3) (j4:w.cell? ⟨gg,10,none⟩=some u4) (j5:w.cell? ⟨gg,11,none⟩=some u5) (j6:w.cell? ⟨gg,12,none⟩=some u6)
 (hf:∀i,w.frozen? ⟨gg,i,none⟩=false) :
 Calls Tryz.prog 63 #[.pointer (some ⟨g,0,none⟩),.int .i64 0] w fun e w'=>e= .returned (.tuple #[])∧
  w'=((((((w.setCell ⟨gg,7,none⟩ (.int .i64 o)).setCell ⟨gg,8,none⟩ (.int .i64 nu)).setCell ⟨gg,9,none⟩ (.int .i64 de)).setCell ⟨gg,10,none⟩ (.int .i64 di)).setCell ⟨gg,11,none⟩ (.string na)).setCell ⟨gg,12,none⟩ (.slice va vn vc)).drew:=by
 have hN0:(0:Int)<(N:Int):=by omega
 have hN2:0<N:=by omega
 go_enter Tryz.func63,Tryz.ntmps63
 go_wp2_with fail
 refine TG.begin 13 (fun w'=>w'.cell? ⟨g,6,none⟩=some (.slice (some ⟨gg,0,none⟩) N cap)∧w'.cell? ⟨gg,1,none⟩=some (.int .i64 o)∧w'.cell? ⟨gg,2,none⟩=some (.int .i64 nu)∧w'.cell? ⟨gg,3,none⟩=some (.int .i64 de)∧w'.cell? ⟨gg,4,none⟩=some (.int .i64 di)∧w'.cell? ⟨gg,5,none⟩=some (.string na)∧w'.cell? ⟨gg,6,none⟩=some (.slice va vn vc)) (by kernel_rfl) (by kernel_rfl) ?_ (fun hS=>?_)
 focus exact⟨hc,k1,k2,k3,k4,k5,k6⟩
 refine TG.tkB 0 hS ?_
 refine TG.tkB 1 hS ?_
 refine TG.tkB 2 hS ?_
 refine TG.tkB 3 hS ?_
 refine TG.tkB 4 hS ?_
 refine TG.tkB 5 hS ?_
 refine TG.tkB 6 hS ?_
 refine TG.tkB 7 hS ?_
 refine TG.tkB 8 hS ?_
 refine TG.tkB 9 hS ?_
 refine TG.tkB 10 hS ?_
 refine TG.tkB 11 hS ?_
 refine TG.tkB 12 hS ?_
 refine TG.one (i:=13) (by kernel_rfl) rfl (fun K1 hK1=>?_)
 go_simp
 refine hK1 _ _ (fun h=>absurd rfl h) (TG.done (by kernel_rfl) ?_)
 clear hK1 K1 hS
 (try simp only [nS])
 go_wp2_with fail
 go_returns
 exact⟨rfl,rfl⟩
theorem tw3_yes(g gg N cap:Nat)(w:World)(hc:w.cell? ⟨g,5,none⟩=some (.slice (some ⟨gg,0,none⟩) N cap))
 (hN:1≤N) (hm:N≤140737488355328) (u1 u2 u3 u4 u5 u6:Value) (j1:w.cell? ⟨gg,1,none⟩=some u1) (j2:w.cell? ⟨gg,2,none⟩=some u2) (j3:w.cell? ⟨gg,3,none⟩=some u3) (j4:w.cell? ⟨gg,4,none⟩=some u4) (j5:w.cell? ⟨gg,5,none⟩=some u5) (j6:w.cell? ⟨gg,6,none⟩=some u6)
 (hf:∀i,w.frozen? ⟨gg,i,none⟩=false) :
 Calls Tryz.prog 63 #[.pointer (some ⟨g,0,none⟩),.int .i64 3] w fun e w'=>e= .returned (.tuple #[])∧
  w'=(((((w.setCell ⟨gg,1,none⟩ (.int .i64 2)).setCell ⟨gg,2,none⟩ (.int .i64 0)).setCell ⟨gg,3,none⟩ (.int .i64 0)).setCell ⟨gg,4,none⟩ (.int .i64 0)).setCell ⟨gg,5,none⟩ (.string ⟨#[108,97,116,101,114]⟩)).setCell ⟨gg,6,none⟩ (.slice none 0 0):=by
 have hN0:(0:Int)<(N:Int):=by omega
 have hN2:0<N:=by omega
 go_enter Tryz.func63,Tryz.ntmps63
 go_wp2_with fail
 go_returns
 exact⟨rfl,rfl⟩
theorem tw6_yes(g gg N cap:Nat)(w:World)(hc:w.cell? ⟨g,5,none⟩=some (.slice (some ⟨gg,0,none⟩) N cap))
 (hN:1≤N) (hm:N≤140737488355328) (u1:Value) (j1:w.cell? ⟨gg,0,none⟩=some u1) (hf:w.frozen? ⟨gg,0,none⟩=false) :
 Calls Tryz.prog 63 #[.pointer (some ⟨g,0,none⟩),.int .i64 6] w fun e w'=>e= .returned (.tuple #[])∧w'=w.setCell ⟨gg,0,none⟩ (.string ⟨#[97,103,101]⟩):=by
 have hN0:(0:Int)<(N:Int):=by omega
 have hN2:0<N:=by omega
 go_enter Tryz.func63,Tryz.ntmps63
 go_wp2_with fail
 go_returns
 exact⟨rfl,rfl⟩
theorem tw0_no(g N cap:Nat)(a:Option Addr)(w:World)(hc:w.cell? ⟨g,6,none⟩=some (.slice a N cap))(hN:N<1) :
 Calls Tryz.prog 63 #[.pointer (some ⟨g,0,none⟩),.int .i64 0] w fun e w'=>e= .returned (.tuple #[])∧w=w':=by
 have hN0:¬(1:Int)-1<(N:Int):=by omega
 have hN1:(N:Int)<1:=by omega
 go_enter Tryz.func63,Tryz.ntmps63
 go_wp2_with fail
 all_goals first|(exfalso;omega)|skip
 go_returns
 exact⟨rfl,rfl⟩
theorem tw1_no(g N cap:Nat)(a:Option Addr)(w:World)(hc:w.cell? ⟨g,6,none⟩=some (.slice a N cap))(hN:N<2) :
 Calls Tryz.prog 63 #[.pointer (some ⟨g,0,none⟩),.int .i64 1] w fun e w'=>e= .returned (.tuple #[])∧w=w':=by
 have hN0:¬(2:Int)-1<(N:Int):=by omega
 have hN1:(N:Int)<2:=by omega
 go_enter Tryz.func63,Tryz.ntmps63
 go_wp2_with fail
 all_goals first|(exfalso;omega)|skip
 go_returns
 exact⟨rfl,rfl⟩
theorem tw2_no(g N cap:Nat)(a:Option Addr)(w:World)(hc:w.cell? ⟨g,5,none⟩=some (.slice a N cap))(hN:N<2) :
 Calls Tryz.prog 63 #[.pointer (some ⟨g,0,none⟩),.int .i64 2] w fun e w'=>e= .returned (.tuple #[])∧w=w':=by
 have hN0:¬(2:Int)-1<(N:Int):=by omega
 have hN1:(N:Int)<2:=by omega
 go_enter Tryz.func63,Tryz.ntmps63
 go_wp2_with fail
 all_goals first|(exfalso;omega)|skip
 go_returns
 exact⟨rfl,rfl⟩
theorem tw3_no(g N cap:Nat)(a:Option Addr)(w:World)(hc:w.cell? ⟨g,5,none⟩=some (.slice a N cap))(hN:N<1) :
 Calls Tryz.prog 63 #[.pointer (some ⟨g,0,none⟩),.int .i64 3] w fun e w'=>e= .returned (.tuple #[])∧w=w':=by
 have hN0:¬(1:Int)-1<(N:Int):=by omega
 have hN1:(N:Int)<1:=by omega
 go_enter Tryz.func63,Tryz.ntmps63
 go_wp2_with fail
 all_goals first|(exfalso;omega)|skip
 go_returns
 exact⟨rfl,rfl⟩
theorem tw4_no(g N cap:Nat)(a:Option Addr)(w:World)(hc:w.cell? ⟨g,4,none⟩=some (.slice a N cap))(hN:N<2) :
 Calls Tryz.prog 63 #[.pointer (some ⟨g,0,none⟩),.int .i64 4] w fun e w'=>e= .returned (.tuple #[])∧w=w':=by
 have hN0:¬(2:Int)-1<(N:Int):=by omega
 have hN1:(N:Int)<2:=by omega
 go_enter Tryz.func63,Tryz.ntmps63
 go_wp2_with fail
 all_goals first|(exfalso;omega)|skip
 go_returns
 exact⟨rfl,rfl⟩
theorem tw5_no(g N cap:Nat)(a:Option Addr)(w:World)(hc:w.cell? ⟨g,3,none⟩=some (.slice a N cap))(hN:N<2) :
 Calls Tryz.prog 63 #[.pointer (some ⟨g,0,none⟩),.int .i64 5] w fun e w'=>e= .returned (.tuple #[])∧w=w':=by
 have hN0:¬(2:Int)-1<(N:Int):=by omega
 have hN1:(N:Int)<2:=by omega
 go_enter Tryz.func63,Tryz.ntmps63
 go_wp2_with fail
 all_goals first|(exfalso;omega)|skip
 go_returns
 exact⟨rfl,rfl⟩
theorem tw6_no(g N cap:Nat)(a:Option Addr)(w:World)(hc:w.cell? ⟨g,5,none⟩=some (.slice a N cap))(hN:N<1) :
 Calls Tryz.prog 63 #[.pointer (some ⟨g,0,none⟩),.int .i64 6] w fun e w'=>e= .returned (.tuple #[])∧w=w':=by
 have hN0:¬(1:Int)-1<(N:Int):=by omega
 have hN1:(N:Int)<1:=by omega
 go_enter Tryz.func63,Tryz.ntmps63
 go_wp2_with fail
 all_goals first|(exfalso;omega)|skip
 go_returns
 exact⟨rfl,rfl⟩
end Go.Proofs.YtfoefpoaomepbaaGreatDoor
