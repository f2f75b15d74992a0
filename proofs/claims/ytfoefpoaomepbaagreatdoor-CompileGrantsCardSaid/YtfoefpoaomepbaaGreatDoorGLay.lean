import Derived.Test.YtfoefpoaomepbaaGreatDoorGLayF
import Derived.Lib.OthersKept
import Derived.Lib.IndexLaws
import Derived.Lib.ItoaLen
import Derived.Test.YtfoefpoaomepbaaGreatDoorRows
import Derived.Below
import Derived.Handed
import Derived.LaidLaws
import Derived.LaidSub
import Derived.Lay
import Derived.Stop.LaidErr
import Derived.MakeChecks
import Derived.Lib.LaidTab
set_option linter.all false
set_option maxHeartbeats 16000000
set_option maxRecDepth 1000000
namespace Go.Proofs.YtfoefpoaomepbaaGreatDoor
open Go.Proofs.Tryz Tryz List
open Go.RowKit
theorem vg(l:List Ins)(A B C:Nat->List Ins)(L1 L2 L3 L4 L5 L6:List Ins)(hL1:L1=l++A l.length)(hL2:L2=L1++[⟨22,0,0,0⟩])(hL3:L3=L2++B L2.length)(hL4:L4=L3++[⟨21,0,0,0⟩])(hL5:L5=eP L4 L1.length L4.length)(hL6:L6=L5++C L5.length) :
 eP L6 L3.length L6.length=l++brC A B C l.length/\L6.length=l.length+(brC A B C l.length).length:=by
 have n1:L1.length=l.length+(A l.length).length:=by rw [hL1,length_append]
 have n2:L2.length=l.length+(A l.length).length+1:=by rw [hL2,length_append,n1];rfl
 rw [n2]at hL3;have n3:L3.length=l.length+(A l.length).length+1+(B (l.length+(A l.length).length+1)).length:=by rw [hL3,length_append,n2]
 have n4:L4.length=l.length+(A l.length).length+1+(B (l.length+(A l.length).length+1)).length+1:=by rw [hL4,length_append,n3];rfl
 have n5:L5.length=l.length+(A l.length).length+1+(B (l.length+(A l.length).length+1)).length+1:=by rw [hL5,iA,n4]
 rw [n5]at hL6;have n6:L6.length=l.length+(A l.length).length+1+(B (l.length+(A l.length).length+1)).length+1+(C (l.length+(A l.length).length+1+(B (l.length+(A l.length).length+1)).length+1)).length:=by rw [hL6,length_append,n5]
 have key:=Qp l (A l.length) (B (l.length+(A l.length).length+1)) (C (l.length+(A l.length).length+1+(B (l.length+(A l.length).length+1)).length+1)) L1.length L3.length L6.length (by rw [hL1]) (by rw [hL3,hL2,hL1]);have e4:L4=l++A l.length++[⟨22,0,0,0⟩]++B (l.length+(A l.length).length+1)++[⟨21,0,0,0⟩]:=by rw [hL4,hL3,hL2,hL1]
 rw [<-e4,<-hL5,<-hL6]at key;refine⟨?_, ?_⟩
 ·rw [key,n6];rfl
 ·have:=congrArg List.length key;rw [iA,length_append]at this;rw [this];unfold brC;simp only [length_append,length_cons]
theorem Nk{n:Nat}{op:Int}(h:(n:Int)=aJ op):1<=op/\op<=21/\n<=3:=by
 unfold aJ at h
 (repeat' split at h)<;>omega
theorem gY(κ:ByteArray->Nat)(xs:List Ex)(k:Nat)(h:k<xs.length):(bP κ xs).getD k (fun _=>[])=codeF κ (xs.getD k default):=by
 rw [getD_eq_getElem?_getD,uX κ xs k h];rfl
theorem IQ{n d:Int}(h1:0<=n)(h2:n<=1000000000000000)(h3:1<=d)(h4:d<=1000000000):mkE n d=0:=by
 unfold mkE lI;rw [if_neg zb,if_neg];have a:=Nat.div_le_self n.natAbs (Nat.gcd n.natAbs d.natAbs);have b:=Nat.div_le_self d.natAbs (Nat.gcd n.natAbs d.natAbs);omega
theorem El{n d:Int}(h1:0<=n)(h2:1<=d):0<=mkN n d:=by
 unfold mkN kN;rw [if_neg zb,decide_eq_false zb,decide_eq_false zb]
 split
 ·omega
 ·simp only [bne_self_eq_false,Bool.false_eq_true,if_false];exact Int.natCast_nonneg _
theorem O0{n d:Int}(h2:1<=d)(he:mkE n d=0):mkD n d ∣ d:=by
 unfold mkE lI at he;unfold mkD nZ;rw [if_neg zb]at he ⊢
 split at he<;>rename_i hc
 ·simp at he
 rw [if_neg hc];obtain⟨b,rfl⟩:=Int.eq_ofNat_of_zero_le (show 0<=d by omega);rw [Int.natAbs_natCast];exact Int.natCast_dvd_natCast.2 (Nat.div_dvd_of_dvd (Nat.gcd_dvd_right _ _))
theorem Ra{n d:Int}(h1:0<=n)(h2:1<=d):mkN n d<=n:=by
 unfold mkN kN;rw [if_neg zb,decide_eq_false zb,decide_eq_false zb]
 split
 ·omega
 ·have:=Nat.div_le_self n.natAbs (Nat.gcd n.natAbs d.natAbs);simp only [bne_self_eq_false,Bool.false_eq_true,if_false];omega
theorem Re{n d m:Int}(h1:0<=n)(h2:n<=1000000)(h3:1<=d)(h4:d ∣ 10000)(h5:2<=m/\m<=4):aV (mkN n d) (mkD n d) m=true:=by
 have hd:d<=10000:=Int.le_of_dvd zb h4;have he:=IQ h1 zb h3 zb;have hv:=LF (show d≠0 by omega) he;have hb:=aG hv;have hn:=El h1 h3;have hl:=Ra h1 h3;have hdv:mkD n d ∣ 10000:=Int.dvd_trans (O0 h3 he) h4;have hq:mkN n d / mkD n d<=mkN n d:=Int.ediv_le_self _ hn;unfold aV;rw [hv,decide_eq_true hn,decide_eq_true (Int.emod_eq_zero_of_dvd hdv),decide_eq_true h5.1,decide_eq_true h5.2,decide_eq_true zb];rfl
theorem num_ok(zs:List Int)(p:Nat){m:Int}(h5:2<=m/\m<=4):aV (IB zs p) (IC zs p) m=true:=by
 have h1:=dY zs p 4000 zb;have h2:=dY zs (p+1) 7 zb;unfold IB IC;refine Re h1.1 zb ?_ ?_ h5
 all_goals
  generalize aH zs (p+1) 7=i at *;rcases(show i=0\/i=1\/i=2\/i=3\/i=4\/i=5\/i=6 by omega)with rfl|rfl|rfl|rfl|rfl|rfl|rfl<;>decide

def tlD:Code->Code
 | .seq _ b=>b
 |c=>c
def mD(r:Option (Int × Int × Int)):Value:=match r with|some t=>.tuple #[.agg #[.int .i64 t.1,.int .i64 t.2.1],.int .i64 t.2.2,.bool true]|none=>.tuple #[.agg #[.int .i64 0,.int .i64 0],.int .i64 0,.bool false]
theorem Jj(Y:World)(bs:Array Obj)(d:Nat)(s:ByteArray)(pos:Nat):(Y.grow bs d).iter s pos=Y.grow (bs.push (.stringIter s pos)) d:=by
 simp [World.iter,World.grow,World.alloc]
theorem GA(Y:World)(bs:Array Obj)(d j:Nat):(Y.grow bs d).heap[Y.heap.size+j]? =bs[j]?:=by
 simp only [World.grow];rw [Array.getElem?_append_right zb]
 congr 1;omega
theorem Cm(Y:World)(bs:Array Obj)(d j:Nat)(s:ByteArray)(pos:Nat):(Y.grow bs d).iterAt (Y.heap.size+j) s pos=Y.grow (bs.setIfInBounds j (.stringIter s pos)) d:=by
 simp only [World.iterAt,World.grow]
 congr 1
 rw [Array.setIfInBounds_append_right zb]
 congr 2;omega
theorem OM{p:Int}{f:Nat}{A B:Int}(h:A % p=0/\B % p=0):gQ p (f+1) A B=gQ p f (A / p) (B / p):=by rw [gQ,if_pos h]
theorem mY{p:Int}{f:Nat}{A B:Int}(h:¬(A % p=0/\B % p=0)):gQ p f A B=(A,B):=by
 cases f with
 |zero=>rfl
 |succ f=>rw [gQ,if_neg h]
def DD(p:Int)(f0:Nat)(A0 B0:Int)(f:Nat)(A B:Int):Prop:=gQ p f A B=gQ p f0 A0 B0/\B<p ^ f
theorem DD.next{p:Int}{f0:Nat}{A0 B0:Int}{f:Nat}{A B:Int}(hp:2<=p)(h:DD p f0 A0 B0 f A B)(hB:1<=B)(hm:A % p=0/\B % p=0):∃g,DD p f0 A0 B0 g (A / p) (B / p)/\1<=B / p/\B / p<B:=by
 obtain⟨h1,h2⟩:=h
 cases f with
 |zero=>simp at h2;omega
 |succ g=>
  have e:=Int.mul_ediv_add_emod B p;rw [hm.2,Int.add_zero]at e
  have hq:1<=B / p:=by
   rcases Int.lt_or_le (B / p) 1 with h|h
   ·have:p*(B / p)<=p*0:=Int.mul_le_mul_of_nonneg_left zb zb;omega
   ·exact h
  refine⟨g,⟨by rw [<-h1,OM hm], ?_⟩,hq, ?_⟩
  ·rw [Int.pow_succ,<-e,Int.mul_comm _ p]at h2;exact Int.lt_of_mul_lt_mul_left h2 zb
  ·have:2*(B / p)<=p*(B / p):=Int.mul_le_mul_of_nonneg_right hp zb;omega
theorem Gu(w:World):(Instr.index 243 (.agg #[.int .i64 2,.int .i64 5]) (.int .i64 0)).run prog w= .ok (.int .i64 2) w:=by simp [Instr.index,go_sem]
theorem Cx(w:World):(Instr.index 243 (.agg #[.int .i64 2,.int .i64 5]) (.int .i64 1)).run prog w= .ok (.int .i64 5) w:=by simp [Instr.index,go_sem]
def Qs(w0 wr:World):Nat:=match wr.cell? ⟨w0.heap.size,1,none⟩with|some (.int _ z)=>z.toNat|_=>0
theorem RS(b:ByteArray)(x p m:Int)(w:World)(bs:Array Obj)(d:Nat)(hb:b.size<=4)(hasc:∀i (h:i<b.size),(b[i]'h).toNat<128)(hx0:0<=x)(hx1:x<=1000000000)(hp0:0<=p)(hp1:p<=10000)
 (u0 u1 u4 u5 u6 u8 u10 u12 u13 u14 u15 u16 u17 u18 u19 u20 u21 u22 u23 u24 u25 u26 u27 u28 u29 u30 u31 u32 u33 u34 u35 u36 u37 u38 u39 u40 u41 u42 u43 u44 u45 u46 u47 u48 u49 u50 u51 u52 u53 u54 u55 u56 u57 u58 u59 u60 u61 u62 u63 u64 u65 u66 u67 u68 u69 u70 u71 u72 u73 u74 u75 u76 u77 u78 u79 u80 u81 u82 u83 u84 u85 u86 u87 u88 u89 u90 u91 u92 u93 u94 u95 u96 u97 u98 u99 u100 u101 u102 u103 u104 u105 u106 u107 u108 u109 u110 u111 u112 u113 u114 u115 u116 u117 u118 u119 u120 u121 u122 u123 u124 u125 u126 u127 u128 u129 u130 u131 u132 u133 u134 u135 u136 u137 u138 u139 u140 u141:Value) :
 Code.wp prog (tlD (tlD (tlD (tlD (tlD (tlD (tlD (tlD (f187.body.getD .skip))))))))) (bodyPost prog f187 (fun e w'=>e= .returned (mD (some ((kg (x*10 ^ b.size+p) (10 ^ b.size)).1,(kg (x*10 ^ b.size+p) (10 ^ b.size)).2,m)))/\w.Grows w')) {tmps:=#[u0,u1,.pointer (some ⟨w.heap.size,0,none⟩),.int .i64 m,u4,u5,u6,.string b,u8,.int .i64 x,u10,.int .i64 p,u12,u13,u14,u15,u16,u17,u18,u19,u20,u21,u22,u23,u24,u25,u26,u27,u28,u29,u30,u31,u32,u33,u34,u35,u36,u37,u38,u39,u40,u41,u42,u43,u44,u45,u46,u47,u48,u49,u50,u51,u52,u53,u54,u55,u56,u57,u58,u59,u60,u61,u62,u63,u64,u65,u66,u67,u68,u69,u70,u71,u72,u73,u74,u75,u76,u77,u78,u79,u80,u81,u82,u83,u84,u85,u86,u87,u88,u89,u90,u91,u92,u93,u94,u95,u96,u97,u98,u99,u100,u101,u102,u103,u104,u105,u106,u107,u108,u109,u110,u111,u112,u113,u114,u115,u116,u117,u118,u119,u120,u121,u122,u123,u124,u125,u126,u127,u128,u129,u130,u131,u132,u133,u134,u135,u136,u137,u138,u139,u140,u141],defers:=[]} ((w.alloc (.cells #[.int .i64 0,.int .i64 0] 24)).grow bs d):=by
 conv=>arg 2;whnf
 have HASC:=yq hasc;clear hasc
 go_wp2_with fail
 go_loopw [9] (fun v9 wr=>∃k:Nat,∃X E:Int,∃bs' d',k<=b.size/\v9= .int .i64 X/\wr=((w.alloc (.cells #[.int .i64 0,.int .i64 E] 24)).grow bs' d')/\bs'[bs.size]? =some (.stringIter b k)/\Hid (X=x*10 ^ k/\E=10 ^ k)/\0<=X/\X<=10000000000000/\1<=E/\E<=10000) (fun _ wr=>b.size-wr.iterPos (w.heap.size+1+bs.size))
 case atStart=>exact⟨0,x,1,_,_,Nat.zero_le _,rfl,Jj _ _ _ _ _,by simp,yq zd,by omega,by omega,by omega,by omega⟩
 case round=>
  obtain⟨k,X,E,bs2,d2,hk,rfl,rfl,hit,HXE,hX0,hX1,hE0,hE1⟩:=hrel
  have hkk:((w.alloc (.cells #[.int .i64 0,.int .i64 E] 24)).grow bs2 d2).heap[w.heap.size+1+bs.size]? =some (.stringIter b k):=by
   have:=GA (w.alloc (.cells #[.int .i64 0,.int .i64 E] 24)) bs2 d2 bs.size;rw [World.size_alloc]at this;rw [this];exact hit
  by_cases hlt:k<b.size
  ·have hnext:∀ty,(Instr.next (.pointer (some ⟨w.heap.size+1+bs.size,0,none⟩)) true ty).run prog ((w.alloc (.cells #[.int .i64 0,.int .i64 E] 24)).grow bs2 d2)=_:=fun ty=>Lib.run_next_ascii_at _ _ b k ty hkk hlt (HASC.out k hlt);have hia:=Cm (w.alloc (.cells #[.int .i64 0,.int .i64 E] 24)) bs2 d2 bs.size b (k+1);rw [World.size_alloc]at hia;rw [hia]at hnext;have hbl:bs.size<bs2.size:=(Array.getElem?_eq_some_iff.1 hit).1;have hit2:(bs2.setIfInBounds bs.size (.stringIter b (k+1)))[bs.size]? =some (.stringIter b (k+1)):=by simp [hbl]
   have hpos:((w.alloc (.cells #[.int .i64 0,.int .i64 E] 24)).grow bs2 d2).iterPos (w.heap.size+1+bs.size)=k:=by simp [World.iterPos,hkk]
   generalize bs2.setIfInBounds bs.size (.stringIter b (k+1))=bs3 at hnext hit2;have hk3:k<=3:=by omega
   have hE3:E<=1000:=by
    have:=HXE.out.2;obtain h|h|h|h:k=0\/k=1\/k=2\/k=3:=by omega
    all_goals rw [this,h];decide
   have hX3:X<=1000000000000:=by
    have e:=HXE.out.1;rw [<-HXE.out.2]at e;have h1:x*E<=1000000000*E:=Int.mul_le_mul_of_nonneg_right hx1 zb;omega
   have w6:IntKind.i64.wrap (10*X)=10*X:=IntWalk.i64_in _ zb;have w7:IntKind.i64.wrap (10*E)=10*E:=IntWalk.i64_in _ zb;have HIT:=yq (And.intro hit2 (And.intro hkk hpos));clear hit hit2 hkk hpos hia
   go_wp2_with fail
   clear hnext
   go_region
   go_wp2_with fail
   go_roundw
   case rel=>exact⟨k+1,_,_,_,_,by omega,rfl,rfl,HIT.out.1,yq ⟨by rw [Int.pow_succ,<-Int.mul_assoc,<-HXE.out.1,Int.mul_comm],by rw [Int.pow_succ,<-HXE.out.2,Int.mul_comm]⟩,by omega,by omega,by omega,by omega⟩
   case measure=>
    have h2:∀dd,((w.alloc (.cells #[.int .i64 0,.int .i64 (10*E)] 24)).grow bs3 dd).heap[w.heap.size+1+bs.size]? =some (.stringIter b (k+1)):=fun dd=>by
     have:=GA (w.alloc (.cells #[.int .i64 0,.int .i64 (10*E)] 24)) bs3 dd bs.size;rw [World.size_alloc,HIT.out.1]at this;exact this
    have h1:=HIT.out.2.2;rw [h1];simp only [World.iterPos,h2];omega
  ·have hnext:∀ty,(Instr.next (.pointer (some ⟨w.heap.size+1+bs.size,0,none⟩)) true ty).run prog ((w.alloc (.cells #[.int .i64 0,.int .i64 E] 24)).grow bs2 d2)=_:=fun ty=>Lib.run_next_end_at _ _ b k ty hkk hlt;obtain rfl:k=b.size:=by omega
   have hN:X+p<=10000000010000:=by omega
   have HXP:=yq (show X+p=x*10 ^ b.size+p by rw [HXE.out.1]);have HE:=yq HXE.out.2;have h214:E<2 ^ 14:=by rw [show(2:Int) ^ 14=16384 by decide];omega
   clear hkk hit HXE hlt
   go_wp2_with fail
   clear hnext
   go_loopw [114] (fun v114 wr=>∃A B:Int,∃bs' d',wr=((w.alloc (.cells #[.int .i64 A,.int .i64 B] 24)).grow bs' d')/\0<=A/\A<=100000000000000/\1<=B/\B<=10000/\
    ((v114= .int .i64 0/\A=X+p/\B=E)\/(v114= .int .i64 1/\Hid ((A,B)=gQ 2 14 (X+p) E))\/(v114= .int .i64 2/\Hid ((A,B)=kg (X+p) E)))) (fun v114 _=>2-(intOf v114).toNat)
   case atStart=>exact⟨_,_,_,_,rfl,by omega,by omega,by omega,by omega,.inl ⟨rfl,rfl,rfl⟩⟩
   case round=>
    obtain⟨A0,B0,bs4,d4,rfl,hA00,hA01,hB00,hB01,hcase⟩:=hrel;rcases hcase with ⟨rfl,rfl,rfl⟩|⟨rfl,H1⟩|⟨rfl,H2⟩
    ·have idx2:=Gu;have idx5:=Cx
     go_wp2_with fail
     clear idx2 idx5
     go_loopw [117] (fun _ wr=>∃f:Nat,∃A B:Int,∃bs' d',wr=((w.alloc (.cells #[.int .i64 A,.int .i64 B] 24)).grow bs' d')/\Hid (DD 2 14 (X+p) B0 f A B)/\0<=A/\A<=100000000000000/\1<=B/\B<=10000) (fun _ wr=>Qs w wr)
     case atStart=>exact⟨14,_,_,_,_,rfl,yq ⟨rfl,h214⟩,by omega,by omega,by omega,by omega⟩
     case round=>
      obtain⟨f,A,B,bs3,d3,rfl,HRD,hA0,hA1,hB0,hB1⟩:=hrel;have e0:=Int.tmod_eq_emod_of_nonneg (b:=2) (show 0<=A from hA0);have e1:=Int.tmod_eq_emod_of_nonneg (b:=2) (show 0<=B by omega);have e2:=Int.tdiv_eq_ediv_of_nonneg (b:=2) (show 0<=A from hA0);have e3:=Int.tdiv_eq_ediv_of_nonneg (b:=2) (show 0<=B by omega);have E:=yq (And.intro e0 (And.intro e1 (And.intro e2 e3)));by_cases ha:A % 2=0
      ·by_cases hb2:B % 2=0
       ·obtain⟨g,hg1,hg2,hg3⟩:=HRD.out.next zb hB0 ⟨ha,hb2⟩;have HG:=yq hg1;have hq0:0<=A / 2:=by omega
        have hq1:A / 2<=100000000000000:=by omega
        have m0:(A.tmod 2==0)=true:=by rw [e0];simpa using ha
        have m1:(B.tmod 2==0)=true:=by rw [e1];simpa using hb2
        have w2:IntKind.i64.wrap (A.tdiv 2)=A / 2:=by rw [e2];exact IntWalk.i64_in _ zb
        have w3:IntKind.i64.wrap (B.tdiv 2)=B / 2:=by rw [e3];exact IntWalk.i64_in _ zb
        have w4:IntKind.i64.wrap (A.tmod 2)=0:=by rw [e0,ha];rfl
        have w5:IntKind.i64.wrap (B.tmod 2)=0:=by rw [e1,hb2];rfl
        clear hg1;clear e0 e1 e2 e3
        go_wp2_with fail
        refine TG.begin 11 (fun w'=>w'.cell? ⟨w.heap.size,1,none⟩=some (.int .i64 B)) ze ze zD (fun hS=>?_);refine TG.tkB 0 hS ?_;refine TG.tkB 2 hS ?_;refine TG.tkB 4 hS ?_;refine TG.tkB 6 hS ?_;refine TG.tkB 5 hS ?_;refine TG.tkB 7 hS ?_;refine TG.one (i:=1) ze rfl (fun K1 hK1=>?_)
        go_simp
        refine TG.go hK1 ?_ (fun hS=>?_)
        focus
         (try dsimp only)
         simp [go_sem]
        clear hK1 K1
        (try simp only [nS])
        refine TG.tkB 3 hS ?_;refine TG.tkB 8 hS ?_;refine TG.one (i:=9) ze rfl (fun K1 hK1=>?_)
        go_simp
        refine TG.go hK1 ?_ (fun hS=>?_)
        focus
         (try dsimp only)
         simp [go_sem]
        clear hK1 K1
        (try simp only [nS])
        refine TG.tkB 10 hS ?_;refine TG.one (i:=11) ze rfl (fun K1 hK1=>?_)
        go_simp
        refine hK1 _ _ (fun h=>absurd rfl h) (TG.done ze ?_);clear hK1 K1 hS
        (try simp only [nS])
        go_wp2_with fail
        go_roundw
        case rel=>exact⟨g,_,_,_,_,rfl,HG,by omega,by omega,by omega,by omega⟩
        case measure=>simp [Qs,go_sem];omega
       ·have HX:=yq (mY (p:=2) (f:=f) (A:=A) (B:=B) (fun h=>hb2 h.2));have m0:(A.tmod 2==0)=true:=by rw [e0];simpa using ha
        have m1:(B.tmod 2==0)=false:=by rw [e1];simpa using hb2
        have w4:IntKind.i64.wrap (A.tmod 2)=0:=by rw [e0,ha];rfl
        have w5:IntKind.i64.wrap (B.tmod 2)=B.tmod 2:=IntWalk.i64_in _ (by rw [e1];omega);have hbd:1<=B.tmod 2:=by rw [e1];omega
        clear e0 e1 e2 e3;have hb3:(B % 2==0)=false:=by simpa using hb2
        go_wp2_with fail
        go_roundw
        case rel=>exact⟨_,_,_,_,rfl,by omega,by omega,by omega,by omega,.inr (.inl ⟨rfl,yq (by rw [<-HRD.out.1,HX.out])⟩)⟩
        case measure=>simp [intOf]
      ·have HX:=yq (mY (p:=2) (f:=f) (A:=A) (B:=B) (fun h=>ha h.1));have m0:(A.tmod 2==0)=false:=by rw [e0];simpa using ha
       have w4:IntKind.i64.wrap (A.tmod 2)=A.tmod 2:=IntWalk.i64_in _ (by rw [e0];omega);have hbd:1<=A.tmod 2:=by rw [e0];omega
       clear e0 e1 e2 e3;have ha3:(A % 2==0)=false:=by simpa using ha
       go_wp2_with fail
       go_roundw
       case rel=>exact⟨_,_,_,_,rfl,by omega,by omega,by omega,by omega,.inr (.inl ⟨rfl,yq (by rw [<-HRD.out.1,HX.out])⟩)⟩
       case measure=>simp [intOf]
    ·have idx2:=Gu;have idx5:=Cx
     go_wp2_with fail
     clear idx2 idx5
     go_loopw [117] (fun _ wr=>∃f:Nat,∃A B:Int,∃bs' d',wr=((w.alloc (.cells #[.int .i64 A,.int .i64 B] 24)).grow bs' d')/\Hid (DD 5 6 A0 B0 f A B)/\0<=A/\A<=100000000000000/\1<=B/\B<=10000) (fun _ wr=>Qs w wr)
     case atStart=>exact⟨6,_,_,_,_,rfl,yq ⟨rfl,xg⟩,by omega,by omega,by omega,by omega⟩
     case round=>
      obtain⟨f,A,B,bs3,d3,rfl,HRD,hA0,hA1,hB0,hB1⟩:=hrel;have e0:=Int.tmod_eq_emod_of_nonneg (b:=5) (show 0<=A from hA0);have e1:=Int.tmod_eq_emod_of_nonneg (b:=5) (show 0<=B by omega);have e2:=Int.tdiv_eq_ediv_of_nonneg (b:=5) (show 0<=A from hA0);have e3:=Int.tdiv_eq_ediv_of_nonneg (b:=5) (show 0<=B by omega);have E:=yq (And.intro e0 (And.intro e1 (And.intro e2 e3)));by_cases ha:A % 5=0
      ·by_cases hb2:B % 5=0
       ·obtain⟨g,hg1,hg2,hg3⟩:=HRD.out.next zb hB0 ⟨ha,hb2⟩;have HG:=yq hg1;have hq0:0<=A / 5:=by omega
        have hq1:A / 5<=100000000000000:=by omega
        have m0:(A.tmod 5==0)=true:=by rw [e0];simpa using ha
        have m1:(B.tmod 5==0)=true:=by rw [e1];simpa using hb2
        have w2:IntKind.i64.wrap (A.tdiv 5)=A / 5:=by rw [e2];exact IntWalk.i64_in _ zb
        have w3:IntKind.i64.wrap (B.tdiv 5)=B / 5:=by rw [e3];exact IntWalk.i64_in _ zb
        have w4:IntKind.i64.wrap (A.tmod 5)=0:=by rw [e0,ha];rfl
        have w5:IntKind.i64.wrap (B.tmod 5)=0:=by rw [e1,hb2];rfl
        clear hg1;clear e0 e1 e2 e3
        go_wp2_with fail
        refine TG.begin 11 (fun w'=>w'.cell? ⟨w.heap.size,1,none⟩=some (.int .i64 B)) ze ze zD (fun hS=>?_);refine TG.tkB 0 hS ?_;refine TG.tkB 2 hS ?_;refine TG.tkB 4 hS ?_;refine TG.tkB 6 hS ?_;refine TG.tkB 5 hS ?_;refine TG.tkB 7 hS ?_;refine TG.one (i:=1) ze rfl (fun K1 hK1=>?_)
        go_simp
        refine TG.go hK1 ?_ (fun hS=>?_)
        focus
         (try dsimp only)
         simp [go_sem]
        clear hK1 K1
        (try simp only [nS])
        refine TG.tkB 3 hS ?_;refine TG.tkB 8 hS ?_;refine TG.one (i:=9) ze rfl (fun K1 hK1=>?_)
        go_simp
        refine TG.go hK1 ?_ (fun hS=>?_)
        focus
         (try dsimp only)
         simp [go_sem]
        clear hK1 K1
        (try simp only [nS])
        refine TG.tkB 10 hS ?_;refine TG.one (i:=11) ze rfl (fun K1 hK1=>?_)
        go_simp
        refine hK1 _ _ (fun h=>absurd rfl h) (TG.done ze ?_);clear hK1 K1 hS
        (try simp only [nS])
        go_wp2_with fail
        go_roundw
        case rel=>exact⟨g,_,_,_,_,rfl,HG,by omega,by omega,by omega,by omega⟩
        case measure=>simp [Qs,go_sem];omega
       ·have HX:=yq (mY (p:=5) (f:=f) (A:=A) (B:=B) (fun h=>hb2 h.2));have m0:(A.tmod 5==0)=true:=by rw [e0];simpa using ha
        have m1:(B.tmod 5==0)=false:=by rw [e1];simpa using hb2
        have w4:IntKind.i64.wrap (A.tmod 5)=0:=by rw [e0,ha];rfl
        have w5:IntKind.i64.wrap (B.tmod 5)=B.tmod 5:=IntWalk.i64_in _ (by rw [e1];omega);have hbd:1<=B.tmod 5:=by rw [e1];omega
        clear e0 e1 e2 e3;have hb3:(B % 5==0)=false:=by simpa using hb2
        go_wp2_with fail
        go_roundw
        case rel=>exact⟨_,_,_,_,rfl,by omega,by omega,by omega,by omega,.inr (.inr ⟨rfl,yq xb⟩)⟩
        case measure=>simp [intOf]
      ·have HX:=yq (mY (p:=5) (f:=f) (A:=A) (B:=B) (fun h=>ha h.1));have m0:(A.tmod 5==0)=false:=by rw [e0];simpa using ha
       have w4:IntKind.i64.wrap (A.tmod 5)=A.tmod 5:=IntWalk.i64_in _ (by rw [e0];omega);have hbd:1<=A.tmod 5:=by rw [e0];omega
       clear e0 e1 e2 e3;have ha3:(A % 5==0)=false:=by simpa using ha
       go_wp2_with fail
       go_roundw
       case rel=>exact⟨_,_,_,_,rfl,by omega,by omega,by omega,by omega,.inr (.inr ⟨rfl,yq xb⟩)⟩
       case measure=>simp [intOf]
    ·go_wp2_with fail
     go_returns
     refine⟨?_,.of_below af⟩;have e:=H2.out;rw [HXP.out,HE.out]at e;rw [<-e];rfl

theorem tX:∀(l:List UInt8) (x y:Int),fU x l=some y->∀c∈l,c.toNat<128
 | [],_,_,_,c,hc=>by cases hc
 |e::r,x,y,h,c,hc=>by
  simp only [fU]at h
  split at h
  ·rename_i hd
   rcases mem_cons.1 hc with rfl|hc
   ·simp only [iI,Bool.and_eq_true,decide_eq_true_eq]at hd;omega
   ·exact tX r _ y h c hc
  ·cases h
def JK(a b:ByteArray)(m:Int):Option (Int × Int × Int):=(fU 0 a.data.toList).bind fun x=>(fU 0 b.data.toList).map fun p=>((kg (x*10 ^ b.size+p) (10 ^ b.size)).1,(kg (x*10 ^ b.size+p) (10 ^ b.size)).2,m)
theorem AV(a b:ByteArray)(m:Int)(w:World)(bs:Array Obj)(d:Nat)(ha:a.size<=9)(hb:b.size<=4)
 (u0 u1 u4 u5 u8 u9 u10 u11 u12 u13 u14 u15 u16 u17 u18 u19 u20 u21 u22 u23 u24 u25 u26 u27 u28 u29 u30 u31 u32 u33 u34 u35 u36 u37 u38 u39 u40 u41 u42 u43 u44 u45 u46 u47 u48 u49 u50 u51 u52 u53 u54 u55 u56 u57 u58 u59 u60 u61 u62 u63 u64 u65 u66 u67 u68 u69 u70 u71 u72 u73 u74 u75 u76 u77 u78 u79 u80 u81 u82 u83 u84 u85 u86 u87 u88 u89 u90 u91 u92 u93 u94 u95 u96 u97 u98 u99 u100 u101 u102 u103 u104 u105 u106 u107 u108 u109 u110 u111 u112 u113 u114 u115 u116 u117 u118 u119 u120 u121 u122 u123 u124 u125 u126 u127 u128 u129 u130 u131 u132 u133 u134 u135 u136 u137 u138 u139 u140 u141:Value) :
 Code.wp prog (tlD (tlD (tlD (tlD (tlD (f187.body.getD .skip)))))) (bodyPost prog f187 (fun e w'=>e= .returned (mD (JK a b m))/\w.Grows w')) {tmps:=#[u0,u1,.pointer (some ⟨w.heap.size,0,none⟩),.int .i64 m,u4,u5,.string a,.string b,u8,u9,u10,u11,u12,u13,u14,u15,u16,u17,u18,u19,u20,u21,u22,u23,u24,u25,u26,u27,u28,u29,u30,u31,u32,u33,u34,u35,u36,u37,u38,u39,u40,u41,u42,u43,u44,u45,u46,u47,u48,u49,u50,u51,u52,u53,u54,u55,u56,u57,u58,u59,u60,u61,u62,u63,u64,u65,u66,u67,u68,u69,u70,u71,u72,u73,u74,u75,u76,u77,u78,u79,u80,u81,u82,u83,u84,u85,u86,u87,u88,u89,u90,u91,u92,u93,u94,u95,u96,u97,u98,u99,u100,u101,u102,u103,u104,u105,u106,u107,u108,u109,u110,u111,u112,u113,u114,u115,u116,u117,u118,u119,u120,u121,u122,u123,u124,u125,u126,u127,u128,u129,u130,u131,u132,u133,u134,u135,u136,u137,u138,u139,u140,u141],defers:=[]} ((w.alloc (.cells #[.int .i64 0,.int .i64 0] 24)).grow bs d):=by
 have HA:Hid _:=yq (fun w=>o8 a w zb);have HB:Hid _:=yq (fun w=>o8 b w zb);unfold JK
 cases hna:fU 0 a.data.toList with
 |none=>
  rw [hna]at HA;simp only [Ei,Option.bind_none]at HA ⊢;clear hna
  cases hnb:fU 0 b.data.toList with
  |none=>
   rw [hnb]at HB;simp only [Ei]at HB;clear hnb
   conv=>arg 2;whnf
   go_wp2_with ((go_at_call 204;first|(with_reducible refine(HA.out _).mono ?_)|(with_reducible refine(HB.out _).mono ?_));rintro e w' ⟨rfl,rfl⟩)
   go_returns
   exact⟨rfl,.of_below af⟩
  |some p=>
   rw [hnb]at HB;simp only [Ei]at HB;clear hnb
   conv=>arg 2;whnf
   go_wp2_with ((go_at_call 204;first|(with_reducible refine(HA.out _).mono ?_)|(with_reducible refine(HB.out _).mono ?_));rintro e w' ⟨rfl,rfl⟩)
   go_returns
   exact⟨rfl,.of_below af⟩
 |some x=>
  have bx:=Am _ 0 x zb hna;rw [hna]at HA;simp only [Ei,Option.bind_some]at HA ⊢;clear hna
  cases hnb:fU 0 b.data.toList with
  |none=>
   rw [hnb]at HB;simp only [Ei,Option.map_none]at HB ⊢;clear hnb
   conv=>arg 2;whnf
   go_wp2_with ((go_at_call 204;first|(with_reducible refine(HA.out _).mono ?_)|(with_reducible refine(HB.out _).mono ?_));rintro e w' ⟨rfl,rfl⟩)
   go_returns
   exact⟨rfl,.of_below af⟩
  |some p=>
   have bp:=Am _ 0 p zb hnb;have hasc:=tX _ _ _ hnb
   have hx:x<=1000000000:=by
    have h1:a.data.toList.length=a.size:=by simp
    rw [h1]at bx;have h2:=Nat.pow_le_pow_right (show 1<=10 by omega) ha;have h3:((10 ^ a.size:Nat):Int)<=((10 ^ 9:Nat):Int):=by exact_mod_cast h2
    simp at h3;omega
   have hp:p<=10000:=by
    have h1:b.data.toList.length=b.size:=by simp
    rw [h1]at bp;have h2:=Nat.pow_le_pow_right (show 1<=10 by omega) hb;have h3:((10 ^ b.size:Nat):Int)<=((10 ^ 4:Nat):Int):=by exact_mod_cast h2
    simp at h3;omega
   have hx0:=bx.1;have hp0:=bp.1;rw [hnb]at HB;simp only [Ei,Option.map_some]at HB ⊢;clear hnb bx bp
   have hasc2:∀i (h:i<b.size),(b[i]'h).toNat<128:=fun i h=>hasc _ (by
    have:b[i]'h=b.data.toList[i]' zy:=by simp;rfl
    rw [this];exact getElem_mem _)
   have HH:=yq (And.intro hasc2 (And.intro hx (And.intro hp (And.intro hx0 hp0))));clear hasc hasc2 hx hp hx0 hp0
   conv=>arg 2;whnf
   apply wp_seq_k;intro K1 hK1;have HK1:=yq hK1;clear hK1
   go_wp2_with ((go_at_call 204;first|(with_reducible refine(HA.out _).mono ?_)|(with_reducible refine(HB.out _).mono ?_));rintro e w' ⟨rfl,rfl⟩)
   refine HK1.out _ _ ?_;clear HK1 K1;apply wp_seq_k;intro K2 hK2;have HK2:=yq hK2;clear hK2
   go_wp2_with ((go_at_call 204;first|(with_reducible refine(HA.out _).mono ?_)|(with_reducible refine(HB.out _).mono ?_));rintro e w' ⟨rfl,rfl⟩)
   refine HK2.out _ _ ?_;clear HK2 K2;apply wp_seq_k;intro K3 hK3;have HK3:=yq hK3;clear hK3
   go_wp2_with ((go_at_call 204;first|(with_reducible refine(HA.out _).mono ?_)|(with_reducible refine(HB.out _).mono ?_));rintro e w' ⟨rfl,rfl⟩)
   refine HK3.out _ _ ?_;exact RS b x p m w bs _ hb HH.out.1 HH.out.2.2.2.1 HH.out.2.1 HH.out.2.2.2.2 HH.out.2.2.1 _ _ _ _ _ _ _ _ _ _ _ _ _ _ _ _ _ _ _ _ _ _ _ _ _ _ _ _ _ _ _ _ _ _ _ _ _ _ _ _ _ _ _ _ _ _ _ _ _ _ _ _ _ _ _ _ _ _ _ _ _ _ _ _ _ _ _ _ _ _ _ _ _ _ _ _ _ _ _ _ _ _ _ _ _ _ _ _ _ _ _ _ _ _ _ _ _ _ _ _ _ _ _ _ _ _ _ _ _ _ _ _ _ _ _ _ _ _ _ _ _ _ _ _ _ _ _ _ _ _ _ _ _ _ _ _ _

theorem ou:∀(l:List UInt8) (c:UInt8),Lib.index l [c]=Lib.indexByte l c
 | [],c=>by simp [Lib.index,Lib.indexByte]
 |b::l,c=>by
  have ih:=ou l c
  have hp:([c]:List UInt8).isPrefixOf (b::l)=(b==c):=by
   simp only [isPrefixOf,Bool.and_true];exact BEq.comm
  unfold Lib.index Lib.indexByte;rw [hp,ih]
def pV(t:ByteArray):ByteArray:=⟨(Lib.cut t.data.toList [46]).1.toArray⟩
def nK(t:ByteArray):ByteArray:=⟨(Lib.cut t.data.toList [46]).2.1.toArray⟩
def oG(t:ByteArray):Bool:=(Lib.cut t.data.toList [46]).2.2
theorem MR{t:ByteArray}{o:Nat}(h:Lib.indexByte t.data.toList 46=o)(ho:o<t.size):pV t=t.extract 0 o/\nK t=t.extract (o+1) t.size/\oG t=true:=by
 have e:Lib.cut t.data.toList [46]=(t.data.toList.take o,t.data.toList.drop (o+1),true):=by
  unfold Lib.cut;rw [ou,h,if_pos zb];simp
 unfold pV nK oG;rw [e];refine⟨?_, ?_,rfl⟩
 ·apply ByteArray.ext;rw [ByteArray.data_extract];apply Array.ext';rw [Array.toList_extract];simp [List.extract]
 ·apply ByteArray.ext;rw [ByteArray.data_extract];apply Array.ext';rw [Array.toList_extract];simp only [List.extract];rw [take_of_length_le];rw [length_drop,Array.length_toList];exact Nat.le_refl _
theorem MS{t:ByteArray}(h:Lib.indexByte t.data.toList 46= -1):pV t=t/\nK t=⟨#[]⟩/\oG t=false:=by
 have e:Lib.cut t.data.toList [46]=(t.data.toList,[],false):=by
  unfold Lib.cut;rw [ou,h,if_neg zb]
 unfold pV nK oG;rw [e];exact⟨by apply ByteArray.ext;simp,rfl,rfl⟩
theorem KS(t:ByteArray)(w:World)(ht:t.size<=maxLen):Calls prog 212 #[.string t,.string ⟨#[46]⟩] w fun e w'=>e= .returned (.tuple #[.string (pV t),.string (nK t),.bool (oG t)])/\w.Grows w':=by
 unfold maxLen at ht;have HI:Hid _:=yq (fun w=>stringslite_Index_one t 46 w);have hge:=Lib.indexByte_ge t.data.toList 46;by_cases h:Lib.indexByte t.data.toList 46= -1
 ·have HC:=yq (MS h);rw [h]at HI;clear h hge
  go_enter func212,ntmps212
  go_wp2_with ((go_at_call 221;(with_reducible refine gw (HI.out _) ?_)))
  go_returns
  exact⟨by rw [HC.out.1,HC.out.2.1,HC.out.2.2];rfl,.of_below af⟩
 ·obtain⟨o,ho⟩:∃o:Nat,Lib.indexByte t.data.toList 46=o:=⟨(Lib.indexByte t.data.toList 46).toNat,by omega⟩
  have hlt:o<t.size:=by
   have:=(Lib.indexByte_some ho).1;have h2:=(List.getElem?_eq_some_iff.1 this).1;simpa using h2
  have HC:=yq (MR ho hlt);rw [ho]at HI;have h1:(o:Int)+1<=t.size:=by omega
  have h2:¬(o:Int)<0:=by omega
  have h3:(o:Int)<=t.size:=by omega
  have e1:(t.extract 0 (o:Int).toNat)=t.extract 0 o:=by rw [Int.toNat_natCast]
  have e2:t.extract ((o:Int)+1).toNat t.size=t.extract (o+1) t.size:=by congr 1
  have E:=yq (And.intro e1 e2);clear e1 e2 h hge ho
  go_enter func212,ntmps212
  go_wp2_with ((go_at_call 221;(with_reducible refine gw (HI.out _) ?_)))
  go_quiet (fail)
  go_wp2_with fail
  go_returns
  exact⟨by rw [HC.out.1,HC.out.2.1,HC.out.2.2];first|rfl|(simp;done),.of_below af⟩
theorem QG(t:ByteArray)(w:World)(ht:t.size<=maxLen):Calls prog 203 #[.string t,.string ⟨#[46]⟩] w fun e w'=>e= .returned (.tuple #[.string (pV t),.string (nK t),.bool (oG t)])/\w.Grows w':=by
 have HI:Hid _:=yq (fun w=>KS t w ht);generalize pV t=a at *;generalize nK t=b at *;generalize oG t=c at *
 go_enter func203,ntmps203
 go_wp2_with ((go_at_call 212;(with_reducible refine gv (HI.out _) ?_);intro bs dr))
 exact Pj

def rG(a b:ByteArray)(pt:Bool):Bool:=pU a.data.toList b.data.toList pt
def RU(t:ByteArray)(m:Int):Option (Int × Int × Int):=if rG (pV t) (nK t) (oG t)=true then JK (pV t) (nK t) m else none
theorem PG(a b:ByteArray)(pt:Bool):rG a b pt=(decide (1<=a.size)&&decide (a.size<=9)&&!(decide (1<a.size)&&decide (a.data.toList.head? =some 48))&&!(pt&&(decide (b.size<1) || decide (4<b.size)))):=by
 unfold rG pU;have h1:a.data.toList.length=a.size:=by simp
 have h2:b.data.toList.length=b.size:=by simp
 rw [h1,h2]
theorem head_eq{a:ByteArray}(h:0<a.size):(a.data.toList.head? =some 48)↔((a[0]'h).toNat:Int)=48:=by
 have h2:0<a.data.toList.length:=by simpa using h
 rw [head?_eq_getElem?,getElem?_eq_getElem h2];have e:a.data.toList[0]=a[0]'h:=by simp;rfl
 rw [e];constructor
 ·intro k;simp only [Option.some.injEq]at k;rw [k];rfl
 ·intro k
  congr 1
  apply UInt8.toNat_inj.1;have:(48:UInt8).toNat=48:=rfl;omega
def AX(a b:ByteArray)(pt:Bool)(m:Int):Option (Int × Int × Int):=if rG a b pt=true then JK a b m else none
theorem MV{t:ByteArray}(h:oG t=false):(nK t).size=0:=by
 unfold oG Lib.cut at h;unfold nK Lib.cut
 split at h
 ·simp at h
 ·rename_i hc;rw [if_neg hc];rfl
theorem Qb(t a b:ByteArray)(pt:Bool)(m:Int)(w:World)(hpt:pt=false->b.size=0)
 (HC:Hid (∀w,Calls prog 203 #[.string t,.string ⟨#[46]⟩] w fun e w'=>e= .returned (.tuple #[.string a,.string b,.bool pt])/\w.Grows w'))
 (u1 u4 u5 u6 u7 u8 u9 u10 u11 u12 u13 u14 u15 u16 u17 u18 u19 u20 u21 u22 u23 u24 u25 u26 u27 u28 u29 u30 u31 u32 u33 u34 u35 u36 u37 u38 u39 u40 u41 u42 u43 u44 u45 u46 u47 u48 u49 u50 u51 u52 u53 u54 u55 u56 u57 u58 u59 u60 u61 u62 u63 u64 u65 u66 u67 u68 u69 u70 u71 u72 u73 u74 u75 u76 u77 u78 u79 u80 u81 u82 u83 u84 u85 u86 u87 u88 u89 u90 u91 u92 u93 u94 u95 u96 u97 u98 u99 u100 u101 u102 u103 u104 u105 u106 u107 u108 u109 u110 u111 u112 u113 u114 u115 u116 u117 u118 u119 u120 u121 u122 u123 u124 u125 u126 u127 u128 u129 u130 u131 u132 u133 u134 u135 u136 u137 u138 u139 u140 u141:Value) :
 Code.wp prog (tlD (tlD (tlD (f187.body.getD .skip)))) (bodyPost prog f187 (fun e w'=>e= .returned (mD (AX a b pt m))/\w.Grows w')) {tmps:=#[.string t,u1,.pointer (some ⟨w.heap.size,0,none⟩),.int .i64 m,u4,u5,u6,u7,u8,u9,u10,u11,u12,u13,u14,u15,u16,u17,u18,u19,u20,u21,u22,u23,u24,u25,u26,u27,u28,u29,u30,u31,u32,u33,u34,u35,u36,u37,u38,u39,u40,u41,u42,u43,u44,u45,u46,u47,u48,u49,u50,u51,u52,u53,u54,u55,u56,u57,u58,u59,u60,u61,u62,u63,u64,u65,u66,u67,u68,u69,u70,u71,u72,u73,u74,u75,u76,u77,u78,u79,u80,u81,u82,u83,u84,u85,u86,u87,u88,u89,u90,u91,u92,u93,u94,u95,u96,u97,u98,u99,u100,u101,u102,u103,u104,u105,u106,u107,u108,u109,u110,u111,u112,u113,u114,u115,u116,u117,u118,u119,u120,u121,u122,u123,u124,u125,u126,u127,u128,u129,u130,u131,u132,u133,u134,u135,u136,u137,u138,u139,u140,u141],defers:=[]} (w.alloc (.cells #[.int .i64 0,.int .i64 0] 24)):=by
 have hf:=PG a b pt;have hbad (h:rG a b pt=false):AX a b pt m=none:=by unfold AX;rw [h];rfl
 have hgood (h:rG a b pt=true):AX a b pt m=JK a b m:=by unfold AX;rw [h];rfl
 conv=>arg 2;whnf
 apply wp_seq_k;intro K1 hK1;have HK1:=yq hK1;clear hK1
 go_wp2_with ((go_at_call 203;(with_reducible refine gv (HC.out _) ?_);intro bs dr))
 clear HC;by_cases s1:1<=a.size
 case neg=>
  have HX:=yq (hbad (by rw [hf,decide_eq_false s1];rfl));have z1:(a.size:Int)<1:=by omega
  clear hf hbad hgood;refine HK1.out _ _ ?_;apply wp_seq_k;intro K2 hK2;have HK2:=yq hK2;clear hK2
  go_wp2_with fail
  go_returns
  exact⟨by rw [HX.out];rfl,.of_below af⟩
 by_cases s2:a.size<=9
 case neg=>
  have HX:=yq (hbad (by rw [hf,decide_eq_false s2,Bool.and_false];rfl));have z1:(9:Int)<(a.size:Int):=by omega
  clear hf hbad hgood;refine HK1.out _ _ ?_;apply wp_seq_k;intro K2 hK2;have HK2:=yq hK2;clear hK2
  go_wp2_with fail
  go_returns
  exact⟨by rw [HX.out];rfl,.of_below af⟩
 have h0:0<a.size:=by omega
 have hh:=head_eq h0
 have key (hz:(decide (1<a.size)&&decide (a.data.toList.head? =some 48))=false):rG a b pt=!(pt&&(decide (b.size<1) || decide (4<b.size))):=by
  rw [hf,decide_eq_true s1,decide_eq_true s2,hz];rfl
 by_cases s3:1<a.size
 ·by_cases s4:((a[0]'h0).toNat:Int)=48
  ·have HX:=yq (hbad (by rw [hf,decide_eq_true s3,decide_eq_true (hh.2 s4)];simp));have z1:(1:Int)<(a.size:Int):=by omega
   have z2:(a.size:Int)<=9:=by omega
   clear hf hbad hgood key hh;refine HK1.out _ _ ?_;apply wp_seq_k;intro K2 hK2;have HK2:=yq hK2;clear hK2
   go_wp2_with fail
   go_returns
   exact⟨by rw [HX.out];rfl,.of_below af⟩
  ·have hz:(decide (1<a.size)&&decide (a.data.toList.head? =some 48))=false:=by rw [decide_eq_false (fun h=>s4 (hh.1 h)),Bool.and_false]
   have hk:=key hz;have s7:(((a[0]'h0).toNat:Int)==48)=false:=by simpa using s4
   have z1:(1:Int)<(a.size:Int):=by omega
   have z2:(a.size:Int)<=9:=by omega
   clear hf key hh hz;cases pt
   ·have HX:=yq (hgood (by rw [hk];rfl));have hb0:=hpt rfl;clear hk hbad hgood hpt;refine HK1.out _ _ ?_;apply wp_seq_k;intro K2 hK2;have HK2:=yq hK2;clear hK2
    go_wp2_with fail
    refine HK2.out _ _ ?_;rw [HX.out];exact AV a b m w bs _ zb zb _ _ _ _ _ _ _ _ _ _ _ _ _ _ _ _ _ _ _ _ _ _ _ _ _ _ _ _ _ _ _ _ _ _ _ _ _ _ _ _ _ _ _ _ _ _ _ _ _ _ _ _ _ _ _ _ _ _ _ _ _ _ _ _ _ _ _ _ _ _ _ _ _ _ _ _ _ _ _ _ _ _ _ _ _ _ _ _ _ _ _ _ _ _ _ _ _ _ _ _ _ _ _ _ _ _ _ _ _ _ _ _ _ _ _ _ _ _ _ _ _ _ _ _ _ _ _ _ _ _ _ _ _ _ _ _ _ _
   ·clear hpt;by_cases s5:b.size<1
    ·have HX:=yq (hbad (by rw [hk,decide_eq_true s5];rfl));have z3:(b.size:Int)<1:=by omega
     clear hk hbad hgood;refine HK1.out _ _ ?_;apply wp_seq_k;intro K2 hK2;have HK2:=yq hK2;clear hK2
     go_wp2_with fail
     go_returns
     exact⟨by rw [HX.out];rfl,.of_below af⟩
    ·by_cases s6:4<b.size
     ·have HX:=yq (hbad (by rw [hk,decide_eq_true s6];simp));have z3:(4:Int)<(b.size:Int):=by omega
      clear hk hbad hgood;refine HK1.out _ _ ?_;apply wp_seq_k;intro K2 hK2;have HK2:=yq hK2;clear hK2
      go_wp2_with fail
      go_returns
      exact⟨by rw [HX.out];rfl,.of_below af⟩
     ·have HX:=yq (hgood yZ);have z3:(b.size:Int)<=4:=by omega
      have z4:(1:Int)<=(b.size:Int):=by omega
      clear hk hbad hgood;refine HK1.out _ _ ?_;apply wp_seq_k;intro K2 hK2;have HK2:=yq hK2;clear hK2
      go_wp2_with fail
      refine HK2.out _ _ ?_;rw [HX.out];exact AV a b m w bs _ zb zb _ _ _ _ _ _ _ _ _ _ _ _ _ _ _ _ _ _ _ _ _ _ _ _ _ _ _ _ _ _ _ _ _ _ _ _ _ _ _ _ _ _ _ _ _ _ _ _ _ _ _ _ _ _ _ _ _ _ _ _ _ _ _ _ _ _ _ _ _ _ _ _ _ _ _ _ _ _ _ _ _ _ _ _ _ _ _ _ _ _ _ _ _ _ _ _ _ _ _ _ _ _ _ _ _ _ _ _ _ _ _ _ _ _ _ _ _ _ _ _ _ _ _ _ _ _ _ _ _ _ _ _ _ _ _ _ _ _
 ·have hz:(decide (1<a.size)&&decide (a.data.toList.head? =some 48))=false:=by rw [decide_eq_false s3,Bool.false_and]
  have hk:=key hz;have z1:(a.size:Int)<=1:=by omega
  have z2:(1:Int)<=(a.size:Int):=by omega
  clear hf key hh hz;cases pt
  ·have HX:=yq (hgood (by rw [hk];rfl));have hb0:=hpt rfl;clear hk hbad hgood hpt;refine HK1.out _ _ ?_;apply wp_seq_k;intro K2 hK2;have HK2:=yq hK2;clear hK2
   go_wp2_with fail
   refine HK2.out _ _ ?_;rw [HX.out];exact AV a b m w bs _ zb zb _ _ _ _ _ _ _ _ _ _ _ _ _ _ _ _ _ _ _ _ _ _ _ _ _ _ _ _ _ _ _ _ _ _ _ _ _ _ _ _ _ _ _ _ _ _ _ _ _ _ _ _ _ _ _ _ _ _ _ _ _ _ _ _ _ _ _ _ _ _ _ _ _ _ _ _ _ _ _ _ _ _ _ _ _ _ _ _ _ _ _ _ _ _ _ _ _ _ _ _ _ _ _ _ _ _ _ _ _ _ _ _ _ _ _ _ _ _ _ _ _ _ _ _ _ _ _ _ _ _ _ _ _ _ _ _ _ _
  ·clear hpt;by_cases s5:b.size<1
   ·have HX:=yq (hbad (by rw [hk,decide_eq_true s5];rfl));have z3:(b.size:Int)<1:=by omega
    clear hk hbad hgood;refine HK1.out _ _ ?_;apply wp_seq_k;intro K2 hK2;have HK2:=yq hK2;clear hK2
    go_wp2_with fail
    go_returns
    exact⟨by rw [HX.out];rfl,.of_below af⟩
   ·by_cases s6:4<b.size
    ·have HX:=yq (hbad (by rw [hk,decide_eq_true s6];simp));have z3:(4:Int)<(b.size:Int):=by omega
     clear hk hbad hgood;refine HK1.out _ _ ?_;apply wp_seq_k;intro K2 hK2;have HK2:=yq hK2;clear hK2
     go_wp2_with fail
     go_returns
     exact⟨by rw [HX.out];rfl,.of_below af⟩
    ·have HX:=yq (hgood yZ);have z3:(b.size:Int)<=4:=by omega
     have z4:(1:Int)<=(b.size:Int):=by omega
     clear hk hbad hgood;refine HK1.out _ _ ?_;apply wp_seq_k;intro K2 hK2;have HK2:=yq hK2;clear hK2
     go_wp2_with fail
     refine HK2.out _ _ ?_;rw [HX.out];exact AV a b m w bs _ zb zb _ _ _ _ _ _ _ _ _ _ _ _ _ _ _ _ _ _ _ _ _ _ _ _ _ _ _ _ _ _ _ _ _ _ _ _ _ _ _ _ _ _ _ _ _ _ _ _ _ _ _ _ _ _ _ _ _ _ _ _ _ _ _ _ _ _ _ _ _ _ _ _ _ _ _ _ _ _ _ _ _ _ _ _ _ _ _ _ _ _ _ _ _ _ _ _ _ _ _ _ _ _ _ _ _ _ _ _ _ _ _ _ _ _ _ _ _ _ _ _ _ _ _ _ _ _ _ _ _ _ _ _ _ _ _ _ _ _
theorem Qe(t:ByteArray)(m:Int):RU t m=Qd (Lib.cut t.data.toList [46]).1 (Lib.cut t.data.toList [46]).2.1 (Lib.cut t.data.toList [46]).2.2 m:=by
 unfold RU rG JK Qd pV nK oG;simp [ByteArray.size]
theorem oW{s t:ByteArray}{m:Int}(h:jK s.data.toList=(t.data.toList,m)):qP s.data.toList=RU t m:=by
 unfold qP;rw [h,Qe]
theorem Pf{s:ByteArray}{n:Nat}(h:s.size=n+1):s.data.toList.getLast? =some (s[n]' zb):=by
 have h3:s.data.toList.length=s.size:=by simp
 have h2:s.data.toList≠[]:=by
  intro e;rw [e]at h3;simp at h3;omega
 rw [getLast?_eq_some_getLast h2,getLast_eq_getElem]
 congr 1
 have e:s.data.toList.length-1=n:=by omega
 simp only [e];rfl
theorem JD{s:ByteArray}{n:Nat}(h:s.size=n+1):(s.extract 0 n).data.toList=s.data.toList.dropLast:=by
 rw [ByteArray.data_extract,Array.toList_extract];have h3:s.data.toList.length=s.size:=by simp
 simp only [List.extract,drop_zero,Nat.sub_zero,dropLast_eq_take]
 congr 1
 omega
theorem gzQ{p:Prop}(h:p:=by
 go_enter Tryz.func187,Tryz.ntmps187
 apply wp_seq_k;intro K1 hK1;have HK1:=Lib.hid hK1;clear hK1
 go_wp2_with fail
 refine HK1.out _ _ ?_;clear HK1 K1;apply wp_seq_k;intro K2 hK2;have HK2:=Lib.hid hK2;clear hK2
 go_wp2_with fail
 refine HK2.out _ _ ?_;clear HK2 K2;apply wp_seq_k;intro K3 hK3;have HK3:=Lib.hid hK3;clear hK3
 go_wp2_with fail
 refine HK3.out _ _ ?_;rw [HF.out]
 exact Qb _ _ _ _ _ w MV (Lib.hid (fun w=>QG _ w HE.out)) _ _ _ _ _ _ _ _ _ _ _ _ _ _ _ _ _ _ _ _ _ _ _ _ _ _ _ _ _ _ _ _ _ _ _ _ _ _ _ _ _ _ _ _ _ _ _ _ _ _ _ _ _ _ _ _ _ _ _ _ _ _ _ _ _ _ _ _ _ _ _ _ _ _ _ _ _ _ _ _ _ _ _ _ _ _ _ _ _ _ _ _ _ _ _ _ _ _ _ _ _ _ _ _ _ _ _ _ _ _ _ _ _ _ _ _ _ _ _ _ _ _ _ _ _ _ _ _ _ _ _ _ _ _ _ _ _ _ _):p:=h
theorem kY(s:ByteArray)(w:World)(hs:s.size<=maxLen):Calls prog 187 #[.string s] w fun e w'=>e= .returned (mD (qP s.data.toList))/\w.Grows w':=by
 by_cases h0:0<s.size
 ·obtain⟨n,hn⟩:∃n,s.size=n+1:=⟨s.size-1,by omega⟩;have hl:=Pf hn;have hd:=JD hn;have hm:s.size<=9223372036854775807:=by unfold maxLen at hs;omega
  have he:(s.extract 0 n).size<=maxLen:=by rw [ByteArray.size_extract];omega
  have hlt:n<s.size:=by omega
  obtain⟨c,hc⟩:∃c,s[n]'hlt=c:=⟨_,rfl⟩;rw [hc]at hl;have hN:(s.size:Int)=(n:Int)+1:=by omega
  by_cases c3:c=100
  ·have HF:Hid (qP s.data.toList=AX (pV (s.extract 0 n)) (nK (s.extract 0 n)) (oG (s.extract 0 n)) 3):=yq (oW (by unfold jK;rw [hl,c3,if_pos rfl,hd]));have HE:=yq he;have q1:((c.toNat:Int)==100)=true:=by rw [c3];rfl
   clear he hl hd c3 hs;exact gzQ
  ·by_cases c4:c=109
   focus
    have HF:Hid (qP s.data.toList=AX (pV (s.extract 0 n)) (nK (s.extract 0 n)) (oG (s.extract 0 n)) 4):=yq (oW (by unfold jK;rw [hl,c4,if_neg zf,if_pos rfl,hd]));have HE:=yq he;have q1:((c.toNat:Int)==100)=false:=by rw [c4];rfl
    have q2:((c.toNat:Int)==109)=true:=by rw [c4];rfl
   rotate_left
   focus
    have HF:Hid (qP s.data.toList=AX (pV s) (nK s) (oG s) 2):=yq (oW (by unfold jK;rw [hl,if_neg (by simpa using c3),if_neg (by simpa using c4)]));have HE:=yq hs
    have q1:((c.toNat:Int)==100)=false:=by
     rw [beq_eq_false_iff_ne];intro k;exact c3 (UInt8.toNat_inj.1 (by have:(100:UInt8).toNat=100:=rfl;omega))
    have q2:((c.toNat:Int)==109)=false:=by
     rw [beq_eq_false_iff_ne];intro k;exact c4 (UInt8.toNat_inj.1 (by have:(109:UInt8).toNat=109:=rfl;omega))
   rotate_left
   all_goals
    clear he hl hd c3 c4 hs;exact gzQ
 ·have h1:s.data.toList= []:=by
   have h3:s.data.toList.length=s.size:=by simp
   exact eq_nil_of_length_eq_zero zb
  have HF:Hid (qP s.data.toList=AX (pV s) (nK s) (oG s) 2):=yq (oW (by rw [h1];rfl));have HE:=yq hs;have hN:(s.size:Int)=0:=by omega
  clear h1 hs;exact gzQ
def dX(n d m:Int)(w:World)(e:Ending)(w':World):Prop:=∃s,e= .returned (.tuple #[.string s,.bool (aV n d m)])/\(aV n d m=true->s.data.toList=GQ n d m)/\w.Grows w'
theorem dX.no{n d m:Int}{w w':World}(h:aV n d m=false)(hw:w.Grows w'):dX n d m w (.returned (.tuple #[.string ⟨#[]⟩,.bool false])) w':=
 ⟨⟨#[]⟩,by rw [h],fun k=>(by rw [h]at k;cases k),hw⟩
theorem dX.yes{n d m:Int}{w w':World}{s:ByteArray}(h:aV n d m=true)(hs:s.data.toList=GQ n d m)(hw:w.Grows w'):dX n d m w (.returned (.tuple #[.string s,.bool true])) w':=
 ⟨s,by rw [h],fun _=>hs,hw⟩
def sw(n d:Int)(k:Nat)(l:List Int)(r:Int)(s:ByteArray):Prop:=
 fG d 4 (n % d)=(fG d (4-k) r).map (l++ ·)/\l.length=k/\s.data.toList=Lib.decDigits (n / d).toNat++mq l
theorem JE{l:List Int}(h:l≠[])(x:Int):mq (l++[x])=mq l++[dgB x]:=by
 unfold mq;rw [if_neg h,if_neg zd];simp
theorem ML(x:Int):mq [x]= [46,dgB x]:=by unfold mq;rw [if_neg zd];rfl
theorem Fq{x:Int}(h0:0<=x)(h1:x<=9):Lib.decDigits x.toNat= [dgB x]:=by
 rw [Lib.decDigits,dif_pos zb];rfl
theorem mE(a b:ByteArray):(a++b).data.toList=a.data.toList++b.data.toList:=by
 rw [ByteArray.data_append,Array.toList_append]
theorem xI{d:Int}{f:Nat}{r:Int}(h:0<r):fG d (f+1) r=(fG d f (r*10 % d)).map fun l=>r*10 / d::l:=by
 rw [fG,if_neg zb]
theorem sw.first{n d r:Int}{s:ByteArray}(h:sw n d 0 [] r s)(hr:0<r)(h0:0<=r*10 / d)(h1:r*10 / d<=9):sw n d 1 [r*10 / d] (r*10 % d) (s++⟨#[46]⟩++⟨(Lib.decDigits (r*10 / d).toNat).toArray⟩):=by
 obtain⟨a,-,c⟩:=h;refine⟨?_,rfl, ?_⟩
 ·rw [a,show 4-0=3+1 by rfl,xI hr];cases fG d 3 (r*10 % d)<;>rfl
 ·rw [mE,mE,c,Fq h0 h1,ML];simp [mq]
theorem sw.more{n d r:Int}{s:ByteArray}{k:Nat}{l:List Int}(h:sw n d k l r s)(hk:0<k)(hk4:k<4)(hr:0<r)(h0:0<=r*10 / d)(h1:r*10 / d<=9) :
 sw n d (k+1) (l++[r*10 / d]) (r*10 % d) (s++⟨(Lib.decDigits (r*10 / d).toNat).toArray⟩):=by
 obtain⟨a,b,c⟩:=h;refine⟨?_,by simp [b], ?_⟩
 ·rw [a,show 4-k=(4-(k+1))+1 by omega,xI hr];cases fG d (4-(k+1)) (r*10 % d)<;>simp
 ·rw [mE,c,Fq h0 h1,JE (by intro e;rw [e]at b;simp at b;omega),append_assoc]
theorem sw.none4{n d r:Int}{s:ByteArray}{l:List Int}(h:sw n d 4 l r s)(hr:0<r):fG d 4 (n % d)=none:=by
 rw [h.1];show(fG d 0 r).map _=none;rw [fG,if_neg zb];rfl
theorem sw.some{n d r:Int}{s:ByteArray}{k:Nat}{l:List Int}(h:sw n d k l r s)(hr:r<=0):fG d 4 (n % d)=some l:=by
 rw [h.1]
 have:fG d (4-k) r=Option.some []:=by
  cases 4-k with
  |zero=>rw [fG,if_pos hr]
  |succ f=>rw [fG,if_pos hr]
 rw [this];simp
theorem AU{s:ByteArray}{n d m:Int}{l:List Int}(h1:1<=d)(h2:d<=10000)(h3:0<=n)(h4:n<=1000000000000000)(hf:fG d 4 (n % d)=some l)(hs:s.data.toList=Lib.decDigits (n / d).toNat++mq l++Ad m) :
 (qP s.data.toList=none/\aV n d m=false)\/∃a b c,qP s.data.toList=some (a,b,c)/\((a=n/\b=d/\c=m/\aV n d m=true/\s.data.toList=GQ n d m)\/(a≠n/\aV n d m=false)\/(b≠d/\aV n d m=false)\/(c≠m/\aV n d m=false)):=by
 have hr:=JM (m:=m) h1 h2 h3 h4 hf;rw [<-hs]at hr
 cases hd:qP s.data.toList with
 |none=>
  left;refine⟨rfl, ?_⟩;rw [Bool.eq_false_iff];intro k;have:=hr.2 k;rw [hd]at this;cases this
 |some t=>
  right;obtain⟨a,b,c⟩:=t;refine⟨a,b,c,rfl, ?_⟩;by_cases e1:a=n
  ·by_cases e2:b=d
   ·by_cases e3:c=m
    ·left;refine⟨e1,e2,e3,hr.1 (by rw [hd,e1,e2,e3]), ?_⟩;unfold GQ;rw [hf];exact hs
    ·right;right;right;refine⟨e3, ?_⟩;rw [Bool.eq_false_iff];intro k;have:=hr.2 k;rw [hd]at this;simp only [Option.some.injEq,Prod.mk.injEq]at this;exact e3 this.2.2
   ·right;right;left;refine⟨e2, ?_⟩;rw [Bool.eq_false_iff];intro k;have:=hr.2 k;rw [hd]at this;simp only [Option.some.injEq,Prod.mk.injEq]at this;exact e2 this.2.1
  ·right;left;refine⟨e1, ?_⟩;rw [Bool.eq_false_iff];intro k;have:=hr.2 k;rw [hd]at this;simp only [Option.some.injEq,Prod.mk.injEq]at this;exact e1 this.1
theorem bv(n d m:Int)(w:World)(h1:I64 n)(h2:I64 d)(h3:I64 m)(ht:Tab w):Calls prog 144 #[.agg #[.int .i64 n,.int .i64 d],.int .i64 m] w (dX n d m w):=by
 unfold I64 at h1 h2 h3;by_cases c1:d<1
 ·exact Pp
 by_cases c2:10000<d
 ·exact Pp
 by_cases c3:n<0
 ·exact Pp
 by_cases c4:(1000000000000000:Int)<n
 ·exact Pp
 have d0:1<=d:=by omega
 have d1:d<=10000:=by omega
 have n0:0<=n:=by omega
 have n1:n<=1000000000000000:=by omega
 clear c1 c2 c3 c4;have hq0:0<=n / d:=Int.ediv_nonneg n0 zb;have hq1:n / d<=n:=Int.ediv_le_self _ n0;have hr0:0<=n % d:=Int.emod_nonneg _ zb;have hr1:n % d<d:=Int.emod_lt_of_pos _ zb;have et:n.tdiv d=n / d:=Int.tdiv_eq_ediv_of_nonneg n0;have em:n.tmod d=n % d:=Int.tmod_eq_emod_of_nonneg n0;have dz:(d==0)=false:=by simp;omega
 have HT:=yq ht;have hi:Lib.itoa (n / d)=Lib.decDigits (n / d).toNat:=by unfold Lib.itoa;rw [if_neg zb]
 have HI:Hid (∀w,Tab w->Calls prog 186 #[.int .i64 (n / d)] w fun e w'=>e= .returned (.string ⟨(Lib.decDigits (n / d).toNat).toArray⟩)/\w.Grows w'):=yq (fun w h=>by
  have:=NA (n / d) zb zb w h
  rwa [hi]at this)
 have HS0:Hid (sw n d 0 [] (n % d) ⟨(Lib.decDigits (n / d).toNat).toArray⟩):=yq ⟨by show _=(fG d 4 (n % d)).map _;simp,rfl,by simp [mq]⟩
 have HZ0:Hid ((⟨(Lib.decDigits (n / d).toNat).toArray⟩:ByteArray).size<=20):=yq (by
  show(Lib.decDigits (n / d).toNat).toArray.size<=20;rw [size_toArray,Lib.decDigits_length]
  exact Lib.nDigits_le20 _ zb)
 clear hi ht;generalize(⟨(Lib.decDigits (n / d).toNat).toArray⟩:ByteArray)=s0 at *
 go_enter func144,ntmps144
 go_wp2_with (go_at_call 186;(with_reducible refine gv (HI.out _ (HT.out.alloc _)) ?_);intro bs dr)
 go_loopw [6,7,8] (fun v6 v7 v8 wr=>∃k:Nat,∃l:List Int,∃r:Int,∃s:ByteArray,k<=4/\v8= .int .i64 k/\v7= .int .i64 r/\v6= .string s/\0<=r/\r<d/\(s.size:Int)<=30+10*k/\Hid (sw n d k l r s)/\
  World.Grows (w.alloc (.cells #[.int .i64 n,.int .i64 d] 24)) wr) (fun _ _ v8 _=>5-(intOf v8).toNat)
 case atStart=>exact⟨0,[],_,_,by omega,rfl,rfl,rfl,hr0,hr1,by have:=HZ0.out;omega,HS0,.of_below af⟩
 case round=>
  obtain⟨k,l,r,s,hk,rfl,rfl,rfl,r0,r1,hsz,HF,bs3,dr3,rfl⟩:=hrel;clear HI;by_cases hp:0<r
  ·have x0:0<=r*10 / d:=Int.ediv_nonneg zb zb
   have x1:r*10 / d<=9:=by
    have:r*10 / d<10:=Int.ediv_lt_of_lt_mul zb zb;omega
   have x2:0<=r*10 % d:=Int.emod_nonneg _ zb;have x3:r*10 % d<d:=Int.emod_lt_of_pos _ zb;have x4:(r*10).tdiv d=r*10 / d:=Int.tdiv_eq_ediv_of_nonneg zb;have x5:(r*10).tmod d=r*10 % d:=Int.tmod_eq_emod_of_nonneg zb;have HX:Hid _:=yq (fun w=>FD (r*10 / d) x0 x1 w);have HXB:=yq (And.intro x0 x1);obtain⟨s9,hs9⟩:∃s9,(⟨(Lib.decDigits (r*10 / d).toNat).toArray⟩:ByteArray)=s9:=⟨_,rfl⟩;have hz9:s9.size=1:=by rw [<-hs9,Fq x0 x1];rfl
   rw [hs9]at HX;have HS9:=yq hs9;clear hs9;by_cases k0:k=0
   ·subst k0;have hl:l= []:=eq_nil_of_length_eq_zero HF.out.2.1;subst hl
    go_wp2_with (go_at_call 186;(with_reducible refine gw (HX.out _) ?_))
    go_roundw
    case rel=>exact⟨1,_,_,_,by omega,rfl,rfl,rfl,x2,x3,by
     rw [ByteArray.size_append,ByteArray.size_append,hz9];show((s.size+1+1:Nat):Int)<=_
     simp at hsz ⊢;omega,yq (by rw [<-HS9.out];exact HF.out.first hp HXB.out.1 HXB.out.2),.of_below af⟩
    case measure=>simp [intOf]
   ·by_cases k4:k=4
    ·subst k4;have HN:=yq (JN (m:=m) d0 d1 n0 n1 (HF.out.none4 hp))
     go_wp2_with fail
     go_returns
     exact dX.no HN.out (.of_below af)
    ·have kz:((k:Int)==0)=false:=by simp;omega
     have k44:((k:Int)==4)=false:=by simp;omega
     go_wp2_with (go_at_call 186;(with_reducible refine gw (HX.out _) ?_))
     go_roundw
     case rel=>exact⟨k+1,_,_,_,by omega,by go_num,rfl,rfl,x2,x3,by
      rw [ByteArray.size_append,hz9];omega,yq (by rw [<-HS9.out];exact HF.out.more zb zb hp HXB.out.1 HXB.out.2),.of_below af⟩
     case measure=>simp [intOf];omega
  ·clear HS0 HZ0;have hsz2:(s.size:Int)<=70:=by omega
   by_cases m3:m=3
   ·subst m3;have HDEC:=yq (AU (m:=3) (s:=s++⟨#[100]⟩) d0 d1 n0 n1 (HF.out.some zb) (by rw [mE,HF.out.2.2];try rfl));have HD:Hid _:=yq (fun w=>kY (s++⟨#[100]⟩) w yQ);clear HF;rcases HDEC.out with ⟨hn,hno⟩|⟨a,b,c,hs,⟨rfl,rfl,rfl,hy,ht⟩|⟨h1,hno⟩|⟨h1,hno⟩|⟨h1,hno⟩⟩
    ·exact Rq
    ·exact Ry
    ·exact Rw
    ·exact Rv
    ·rw [hs]at HD;simp only [mD]at HD;have HO:=yq hno;have q1:(c==3)=false:=by simpa using h1
     exact Ps
   ·by_cases m4:m=4
    ·subst m4;have HDEC:=yq (AU (m:=4) (s:=s++⟨#[109]⟩) d0 d1 n0 n1 (HF.out.some zb) (by rw [mE,HF.out.2.2];try rfl));have HD:Hid _:=yq (fun w=>kY (s++⟨#[109]⟩) w yQ);clear HF;rcases HDEC.out with ⟨hn,hno⟩|⟨a,b,c,hs,⟨rfl,rfl,rfl,hy,ht⟩|⟨h1,hno⟩|⟨h1,hno⟩|⟨h1,hno⟩⟩
     ·exact Rq
     ·exact Ry
     ·exact Rw
     ·exact Rv
     ·rw [hs]at HD;simp only [mD]at HD;have HO:=yq hno;have q1:(c==4)=false:=by simpa using h1
      exact Ps
    ·have y3:(m==3)=false:=by simpa using m3
     have y4:(m==4)=false:=by simpa using m4
     have hsuf:Ad m= []:=by unfold Ad;rw [if_neg m3,if_neg m4]
     have hap:s.data.toList=s.data.toList++Ad m:=by rw [hsuf,append_nil]
     have HAP:=yq hap;clear m3 m4 hsuf hap;have HDEC:=yq (AU (m:=m) (s:=s) d0 d1 n0 n1 (HF.out.some zb) (by rw [HAP.out,HF.out.2.2];try rfl));have HD:Hid _:=yq (fun w=>kY (s) w ym);clear HF;rcases HDEC.out with ⟨hn,hno⟩|⟨a,b,c,hs,⟨rfl,rfl,rfl,hy,ht⟩|⟨h1,hno⟩|⟨h1,hno⟩|⟨h1,hno⟩⟩
     ·exact Rq
     ·exact Ry
     ·exact Rw
     ·exact Rv
     ·rw [hs]at HD;simp only [mD]at HD;have HO:=yq hno;have q1:(c==m)=false:=by simpa using h1
      exact Ps
def UG:ByteArray:=⟨#[98,121]⟩
theorem cutW{P:Program}{c:Code}{Q:Exit->Act->World->Prop}{a:Act}{w:World}(S:World->Prop)(h:S w)(k:∀W,S W->c.wp P Q a W):c.wp P Q a w:=k w h
def n9(k:Nat):Nat:=[0,1,2,1].getD k 0
def x9(k:Nat):List Value:=[[],[.int .i64 2,.bool false,.int .i64 2,.int .i64 1],[.int .i64 2,.bool false,.int .i64 2,.int .i64 1,.int .i64 2,.bool false,.int .i64 3,.int .i64 1],[.int .i64 2,.bool false,.int .i64 5,.int .i64 1]].getD k []
structure P9(w Y:World)(B:Nat)(W:World):Prop where
 gr:w.Grows W
 rel:Rel Y (some B) W
 blk:∃cs ty,W.heap[B]? =some (.cells cs ty (0,0))/\cs.size=48
structure L9(w Y:World)(B k:Nat)(s8 s10:Value)(W:World):Prop where
 p:P9 w Y B W
 own:k<4->W.ownsRow Y.heap.size 41 4 s8 (n9 k) (x9 k)
 st:k<4->s10= .slice none 0 0
 fin:k=4->W.ownsRow Y.heap.size 70 5 s10 1 [.string UG,.int .i64 2,.bool false,.int .i64 5,.int .i64 1]
theorem P9.next{w Y W W2 w1:World}{B:Nat}{row:Option Nat}(h:P9 w Y B W)(hB:B<Y.heap.size)(hY:w.heap.size<=Y.heap.size)(hrow:∀b,row=some b->Y.heap.size<=b)(hg:W.Grows W2)(hgr:W2.grownBy w1 row):P9 w Y B w1:=by
 have h1:=h.gr.trans' hg;have hs:=Nat.le_trans h.rel.1 hg.below.size;refine⟨World.Grows.grown h1 hgr fun b e=>Nat.le_trans hY (hrow b e),⟨Nat.le_trans hs hgr.size,fun b hb hne=>?_⟩, ?_⟩
 ·rw [hgr.block b zb (fun e=>by have:=hrow b e.symm;omega)];exact(h.rel.grows hg).2 b hb hne
 ·obtain⟨cs,ty,hc,hz⟩:=h.blk;exact⟨cs,ty,(hgr.block B zb (fun e=>by have:=hrow B e.symm;omega)).trans ((hg.below.block B (Nat.lt_of_lt_of_le hB h.rel.1)).trans hc),hz⟩
theorem P9.grows{w Y W W2:World}{B:Nat}(h:P9 w Y B W)(hB:B<Y.heap.size)(hg:W.Grows W2):P9 w Y B W2:=by
 obtain⟨cs,ty,hc,hz⟩:=h.blk;exact⟨h.gr.trans' hg,h.rel.grows hg,cs,ty,(hg.below.block B (Nat.lt_of_lt_of_le hB h.rel.1)).trans hc,hz⟩
theorem P9.store{w Y W:World}{B:Nat}(h:P9 w Y B W)(hB:w.heap.size<=B)(j:Nat)(v:Value):P9 w Y B (W.setCell ⟨B,j,none⟩ v):=by
 obtain⟨cs,ty,hc,hz⟩:=h.blk;exact⟨.of_below (h.gr.below.setCell hB v),⟨by have:=h.rel.1;simpa using this,fun b hb hne=>(Below.heap_setCell _ _ _ _ fun e=>hne (by simpa using e)).trans (h.rel.2 b hb hne)⟩,_,ty,Go.Joins.block_setCell hc v,by simpa using hz⟩
theorem P9.cell{w Y W:World}{B:Nat}(h:P9 w Y B W)(j:Nat)(hj:j<48):∃u,W.cell? ⟨B,j,none⟩=some u:=by
 obtain⟨cs,ty,hc,hz⟩:=h.blk;exact⟨cs[j],by rw [cell_of_row W _ j _ _ _ hc];simp [hz,hj]⟩
theorem own_grow9{w:World}{base:Nat}{e:TypeId}{size:Nat}{v:Value}{n:Nat}{xs:List Value}(h:w.ownsRow base e size v n xs){w':World}(hg:w.Grows w'):w'.ownsRow base e size v n xs:=
 h.kept (row:=none) ⟨hg.below.os,hg.below.tape,hg.below.output,hg.below.size,fun k hk _=>hg.below.block k hk⟩ (by cases h':v.ownBlock<;>simp)
theorem own_base9{w:World}{b b' size n:Nat}{e:TypeId}{v:Value}{xs:List Value}(hb:b'<=b)(h:w.ownsRow b e size v n xs):w.ownsRow b' e size v n xs:=by
 exact Tg
open Go.ChangeShapes Go.WideShapes Go.ChangeAt Go.RowKit
abbrev iG:List (String × DataW Unit):=[("math/bits.deBruijn32tab",Rows.laid_math_bits_deBruijn32tab),("math/bits.deBruijn64tab",Rows.laid_math_bits_deBruijn64tab),("internal/strconv.uint64pow10",Rows.laid_internal_strconv_uint64pow10)]
theorem D7:(Rows.laid_internal_strconv_uint64pow10:DataW Unit)=Lib.tabData .u64 Lib.pow10Tab:=by kernel_rfl
theorem Cj{W:World}(h:laidMetH prog iG W):laidMet prog iG W:=by
 rwa [MakeChecks.laidMetH_plain _ _ _ ze]at h
theorem nQ{H:Type}{enc:TypeId × Value->H}{P:Program}{W W':World}(hl:laidOutB P=true)(hb:Below W.heap.size W W'):∀(ts:List TypeId) (vs:List Value) (ds:List (DataW H)) (ps:List MemPlace),(∀t∈ts,P.readableRec t=true/\t<P.types.size)->
 DataW.TrodAll enc P W 0 (fun _=>true) true ts vs ds ps->(∀x∈ps,x.block<W.heap.size)->DataW.TrodAll enc P W' 0 (fun b=>decide (b<W.heap.size)) true ts vs ds ps
 | [],[],[],_,_,h,_=>h
 |t::ts,v::vs,d::ds,ps,hr,h,hlt=>by
  obtain⟨p,q,h1,h2,rfl⟩:=h
  exact⟨p,q,Below.trod hl (hr t mem_cons_self).1 (hr t mem_cons_self).2 h1 hb fun x hx=>hlt x (mem_append_left _ hx),
   nQ hl hb ts vs ds q (fun t ht=>hr t (mem_cons_of_mem _ ht)) h2 fun x hx=>hlt x (mem_append_right _ hx),rfl⟩
 | [],_::_,_,_,_,h,_=>h.elim
 | [],[],_::_,_,_,h,_=>h.elim
 |_::_,[],_,_,_,h,_=>h.elim
 |_::_,_::_,[],_,_,h,_=>h.elim
def Hd{H:Type}(enc:TypeId × Value->H)(P:Program)(f:FuncId)(ts:List TypeId):Prop:=
 ∀(W:World) (base:Nat) (args:Array Value) (ds:List (DataW H)) (p:List MemPlace),laidMetH P iG W->(∀(j:Nat) t v,ts[j]? =some t->args[j]? =some v->Value.okWide P W .any base t v)->
  DataW.TrodAll enc P W 0 (fun _=>true) true ts args.toList ds p->(∀(j:Nat) t d,ts[j]? =some t->ds[j]? =some d->fits P t d)->
  Calls P f args W fun e W'=>e= .returned (.bool true)/\Below W.heap.size W W'
theorem LP{H:Type}{enc:TypeId × Value->H}{P:Program}{fn:Func}{s:ChangeSpec}{W W':World}{args:Array Value}{ds gs:List (DataW H)}{before:List MemPlace}(hl:laidOutB P=true)
 (hr:fn.params.toList.all (fun t=>P.readableRec t&&decide (t<P.types.size))=true) (hres:fn.resultTypes=#[4]) (hu:P.underlying 4=some .bool) (hvars:s.vars= [])
 (hspec:∀ds:List (DataW H),ds.length=fn.params.size->s.fn H (ds++[])= {results:=[.lit (.bool true)],args:=ds})
 (hW:DataW.Whole enc P fn.params.toList s.vars false W args.toList ds gs before) (hb:Below W.heap.size W W'):s.post enc P fn false true false false W args (.bool true) W':=by
 have hW':=hW;obtain⟨p,q,hA,hV,rfl,hfz,hnd⟩:=hW;rw [hvars]at hV;obtain⟨rfl,rfl⟩:=trodVars_none hV
 have hlen:∀(ts:List TypeId) (vs:List Value) (ds:List (DataW H)) (ps:List MemPlace),DataW.TrodAll enc P W 0 (fun _=>true) true ts vs ds ps->ds.length=ts.length:=by
  intro ts
  induction ts with
  |nil=>intro vs ds ps h;cases vs<;>cases ds<;>simp_all [DataW.TrodAll]
  |cons t ts ih=>
   intro vs ds ps h
   cases vs with
   |nil=>exact h.elim
   |cons v vs=>
    cases ds with
    |nil=>exact h.elim
    |cons d ds=>
     obtain⟨_,_,_,h2,_⟩:=h;simp [ih _ _ _ h2]
 have hds:ds.length=fn.params.size:=by rw [hlen _ _ _ _ hA];simp
 have hs:=hspec ds hds;have hlt:∀x∈p,x.block<W.heap.size:=fun x hx=>by have:=hW'.lt x (by simpa using hx);simpa using this
 refine⟨ds,[],p++[],[],p,[],hW', ?_, ?_, ?_,hb.frame _,fun h=>by cases h⟩
 ·rw [hs,hres];exact trodAll_mk1 (shut_bool hu _)
 ·rw [hs];refine nQ hl hb _ _ _ _ (fun t ht=>?_) hA hlt;have:=all_eq_true.1 hr t ht;simpa using this
 ·rw [hs,hvars];rfl
theorem LQ{H:Type}{enc:TypeId × Value->H}{C:Checked}{os:Os}{f:FuncId}{fn:Func}{s:ChangeSpec}{conds:List PathCond}(own:ownKnob C.prog.godebug=none)(started:os.Started)(noInit:C.prog.inits.idxOf? f=none)(hfn:C.prog.funcs[f]? =some fn)
 (witness:∃(w:World) (tape:Tape) (i:Input),w.os=os/\(w.forCall tape i).Shaped C.prog/\i.vars= []/\Input.okWide C.prog (w.forCall tape i) .any w.heap.size f i/\
  ((s.pre enc C.prog fn conds false (w.forCall tape i).memory i.args/\laidMetH C.prog iG (w.forCall tape i).memory)/\sizedMet enc C.prog fn (OpenSpec.ofChange s) false (w.forCall tape i).memory i.args)/\({}:Assume).holds C.prog (lone (Frame.enter C.prog f i.args .normal) [] (w.forCall tape i)))
 (hl:laidOutB C.prog=true) (hr:fn.params.toList.all (fun t=>C.prog.readableRec t&&decide (t<C.prog.types.size))=true) (hres:fn.resultTypes=#[4]) (hu:C.prog.underlying 4=some .bool) (hvars:s.vars= [])
 (hspec:∀ds:List (DataW H),ds.length=fn.params.size->s.fn H (ds++[])= {results:=[.lit (.bool true)],args:=ds}) (walk:Hd enc C.prog f fn.params.toList) :
 ReturnsInHanded {} C os f .any (fun w args=>(s.pre enc C.prog fn conds false w args/\laidMetH C.prog iG w)/\sizedMet enc C.prog fn (OpenSpec.ofChange s) false w args) (s.post enc C.prog fn false true false false):=by
 refine returnsInHanded_of_change_and (C:=C) (X:=fun w _=>laidMetH C.prog iG w) (fun _ _ _ hh h=>h.of_heap hh) own started noInit hfn witness ?_;intro W base args ds gs before hval hW _ hsz hL _;have hW':=hW;obtain⟨p,q,hA,hV,rfl,hfz,hnd⟩:=hW;have e:s.vars= []:=hvars;rw [e]at hV;obtain⟨rfl,rfl⟩:=trodVars_none hV;refine(walk W base args ds p hL (fun j t v ht ha=>hval j t v (by simpa using ht) ha) hA (fun j t d ht hd n hn=>?_)).mono fun e W' ⟨he,hb⟩=>⟨_,he,LP hl hr hres hu hvars hspec hW' hb⟩;have:=all_eq_true.1 hsz n (DataW.weights_mem_each (j:=j) (by rw [getElem?_append_left (List.getElem?_eq_some_iff.1 ht).1];exact ht) (by rw [append_nil];exact hd) n hn);exact of_decide_eq_true this
theorem own:ownKnob prog.godebug=none:=by kernel_rfl
theorem laidOut:laidOutB prog=true:=by kernel_rfl
theorem LW(os:Os)(args:Array Value):laidMetH prog iG ((World.laidAll prog os iG).forCall (fun _ _=>0) ⟨#[],args,[]⟩).memory:=by
 rw [MakeChecks.laidMetH_plain _ _ _ ze];exact laidMet_laidAll args ze ze
theorem Br{W:World}(h:laidMetH prog iG W):Tab W:=by
 have h2:=(Cj h).tail.tail;rw [D7]at h2;exact Lib.tabIs_of_head (P:=prog) (g:=2) (t:=257) (n:=20) (e:=165) ze ze ze ze ze ze h2
end Go.Proofs.YtfoefpoaomepbaaGreatDoor
