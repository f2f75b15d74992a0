import Derived.Test.YtfoefpoaomepbaaGreatDoorTFrPd
import Derived.Test.YtfoefpoaomepbaaGreatDoorTBestI
set_option linter.all false
set_option maxHeartbeats 16000000
set_option maxRecDepth 1000000
namespace Go.Proofs.YtfoefpoaomepbaaGreatDoor
open Go.RowKit
theorem prdF_zero{b c:Bool}{n d m k:Nat}(h:n=0∨m=0∨b=c):prdF b n d m k=prdF c n d m k:=by
 rcases h with rfl|rfl|rfl
 ·have:prdX 0 k m d=0:=by simp [prdX]
  unfold prdF;rw [this];cases b<;>cases c<;>simp
 ·have:prdX n k 0 d=0:=by simp [prdX]
  unfold prdF;rw [this];cases b<;>cases c<;>simp
 ·rfl
def MulCase(s1 s2 s3 s4 neg:Bool):Prop:=(s1=true∧s2=true∧neg=true)∨(s1=true∧s2=false∧s3=false∧neg=false)∨(s1=false∧s3=true∧s4=true∧neg=true)∨(s1=false∧s3=true∧s4=false∧neg=false)∨(s1=false∧s3=false∧neg=false)
theorem mulCase(an bn:Int):∃neg,MulCase (decide (an<0)) (decide (0<bn)) (decide (0<an)) (decide (bn<0)) neg∧(an.natAbs=0∨bn.natAbs=0∨neg=(decide (an<0)!=decide (bn<0))):=by
 by_cases h1:an<0
 ·by_cases h2:0<bn
  ·exact⟨true,.inl (by simp [h1,h2]),by right;right;simp [h1];omega⟩
  ·refine⟨false,.inr (.inl (by simp [h1,h2];omega)), ?_⟩
   by_cases h3:bn=0
   ·exact .inr (.inl (by omega))
   ·right;right;simp [h1];omega
 ·by_cases h2:0<an
  ·by_cases h3:bn<0
   ·exact⟨true,.inr (.inr (.inl (by simp [h1,h2,h3]))),by right;right;simp [h1,h3]⟩
   ·exact⟨false,.inr (.inr (.inr (.inl (by simp [h1,h2,h3])))),by right;right;simp [h1,h3]⟩
  ·exact⟨false,.inr (.inr (.inr (.inr (by simp [h1,h2])))),.inl (by omega)⟩
theorem mul2_core(an ad bn bd n1 n2 n3:Int)(s1 s2 s3 s4 neg:Bool)(w:World)(h1:decide (an<0)=s1)(h2:decide (0<bn)=s2)(h3:decide (0<an)=s3)(h4:decide (bn<0)=s4)(hc:MulCase s1 s2 s3 s4 neg)
 (V1:Hid (∀w,Calls Tryz.prog 175 #[.agg #[.int .i64 an,.int .i64 ad]] w fun e w'=>e= .returned (.bool true)∧w.Grows w')) (V2:Hid (∀w,Calls Tryz.prog 175 #[.agg #[.int .i64 bn,.int .i64 bd]] w fun e w'=>e= .returned (.bool true)∧w.Grows w'))
 (Z:Hid (∀n,I64 n→∀w,Calls Tryz.prog 177 #[.int .i64 n] w fun e w'=>e= .returned (.int .u64 (absI n))∧w=w')) (I1:I64 an) (I2:I64 ad) (I3:I64 bn) (I4:I64 bd)
 (Q:Hid (∀w,Calls Tryz.prog 185 #[.bool neg,.int .u64 (absI an),.int .u64 (absI ad),.int .u64 (absI bn),.int .u64 (absI bd)] w fun e w'=>(e= .returned (.tuple #[.agg #[.int .i64 n1,.int .i64 n2],.int .i64 n3])∧w.Grows w')))
 :Calls Tryz.prog 141 (#[.agg #[.int .i64 an,.int .i64 ad],.agg #[.int .i64 bn,.int .i64 bd]]) w fun e w'=>(e= .returned (.tuple #[.agg #[.int .i64 n1,.int .i64 n2],.int .i64 n3])∧w.Grows w'):=by
 rcases hc with ⟨rfl,rfl,rfl⟩|⟨rfl,rfl,rfl,rfl⟩|⟨rfl,rfl,rfl,rfl⟩|⟨rfl,rfl,rfl,rfl⟩|⟨rfl,rfl,rfl⟩
 all_goals
  go_enter Tryz.func141,Tryz.ntmps141
  go_wp2_with (first|(go_at_call 175;(with_reducible refine(V1.out _).mono ?_);rintro e w' ⟨rfl,bs,dr,rfl⟩)|(go_at_call 175;(with_reducible refine(V2.out _).mono ?_);rintro e w' ⟨rfl,bs2,dr2,rfl⟩))
  refine TS.begin [16,17] (World.Grows _) (by kernel_rfl) (by kernel_rfl) grows_drew (fun hS=>?_)
  refine TS.wkB 0 hS ?_
  refine TS.wkB 1 hS ?_
  refine TS.wkB 2 hS ?_
  refine TS.takeC (i:=3) (v:=(.int .u64 (absI an))) (fn:=177) (args:=#[.int .i64 an]) rfl (by kernel_rfl) (by kernel_rfl) (by kernel_rfl) (by decide) (fun _ _ _ h=>h) rfl hS ?_ ?_ ?_
  focus
   rintro wS ⟨gbS,gdS,rfl⟩
   go_simp
  focus exact fun wS _=>(Z.out _ (by assumption) wS)
  (try simp only [nS])
  refine TS.wkB 4 hS ?_
  refine TS.wkB 5 hS ?_
  refine TS.takeC (i:=6) (v:=(.int .u64 (absI ad))) (fn:=177) (args:=#[.int .i64 ad]) rfl (by kernel_rfl) (by kernel_rfl) (by kernel_rfl) (by decide) (fun _ _ _ h=>h) rfl hS ?_ ?_ ?_
  focus
   rintro wS ⟨gbS,gdS,rfl⟩
   go_simp
  focus exact fun wS _=>(Z.out _ (by assumption) wS)
  (try simp only [nS])
  refine TS.wkB 7 hS ?_
  refine TS.wkB 8 hS ?_
  refine TS.takeC (i:=9) (v:=(.int .u64 (absI bn))) (fn:=177) (args:=#[.int .i64 bn]) rfl (by kernel_rfl) (by kernel_rfl) (by kernel_rfl) (by decide) (fun _ _ _ h=>h) rfl hS ?_ ?_ ?_
  focus
   rintro wS ⟨gbS,gdS,rfl⟩
   go_simp
  focus exact fun wS _=>(Z.out _ (by assumption) wS)
  (try simp only [nS])
  refine TS.wkB 10 hS ?_
  refine TS.wkB 11 hS ?_
  refine TS.takeC (i:=12) (v:=(.int .u64 (absI bd))) (fn:=177) (args:=#[.int .i64 bd]) rfl (by kernel_rfl) (by kernel_rfl) (by kernel_rfl) (by decide) (fun _ _ _ h=>h) rfl hS ?_ ?_ ?_
  focus
   rintro wS ⟨gbS,gdS,rfl⟩
   go_simp
  focus exact fun wS _=>(Z.out _ (by assumption) wS)
  (try simp only [nS])
  refine TS.one (i:=13) (by kernel_rfl) rfl (fun K1 hK1=>?_)
  go_simp
  go_at_call 185
  refine(Q.out _).mono ?_
  rintro e' wA ⟨rfl,bA,dA,rfl⟩
  refine TS.go hK1 (by first|exact⟨_,_,World.grow_grow _ _ _ _ _⟩|exact⟨_,_,rfl⟩) (fun hS=>?_)
  clear hK1 K1
  (try simp only [nS])
  refine TS.wkB 14 hS ?_
  refine TS.wkB 15 hS ?_
  refine TS.wtB 16 ?_
  refine TS.weB 17 ?_
  clear hS
  go_wp2_with fail
  go_returns
  exact⟨rfl,.of_below belB⟩
theorem div2_core(an ad bn bd n1 n2 n3:Int)(s1 s2 s3 s4 neg:Bool)(w:World)(h1:decide (an<0)=s1)(h2:decide (0<bn)=s2)(h3:decide (0<an)=s3)(h4:decide (bn<0)=s4)(hc:MulCase s1 s2 s3 s4 neg)(h5:(bn==0)=false)
 (V1:Hid (∀w,Calls Tryz.prog 175 #[.agg #[.int .i64 an,.int .i64 ad]] w fun e w'=>e= .returned (.bool true)∧w.Grows w')) (V2:Hid (∀w,Calls Tryz.prog 175 #[.agg #[.int .i64 bn,.int .i64 bd]] w fun e w'=>e= .returned (.bool true)∧w.Grows w'))
 (Z:Hid (∀n,I64 n→∀w,Calls Tryz.prog 177 #[.int .i64 n] w fun e w'=>e= .returned (.int .u64 (absI n))∧w=w')) (I1:I64 an) (I2:I64 ad) (I3:I64 bn) (I4:I64 bd)
 (Q:Hid (∀w,Calls Tryz.prog 185 #[.bool neg,.int .u64 (absI an),.int .u64 (absI ad),.int .u64 (absI bd),.int .u64 (absI bn)] w fun e w'=>(e= .returned (.tuple #[.agg #[.int .i64 n1,.int .i64 n2],.int .i64 n3])∧w.Grows w')))
 :Calls Tryz.prog 142 (#[.agg #[.int .i64 an,.int .i64 ad],.agg #[.int .i64 bn,.int .i64 bd]]) w fun e w'=>(e= .returned (.tuple #[.agg #[.int .i64 n1,.int .i64 n2],.int .i64 n3])∧w.Grows w'):=by
 rcases hc with ⟨rfl,rfl,rfl⟩|⟨rfl,rfl,rfl,rfl⟩|⟨rfl,rfl,rfl,rfl⟩|⟨rfl,rfl,rfl,rfl⟩|⟨rfl,rfl,rfl⟩
 all_goals
  go_enter Tryz.func142,Tryz.ntmps142
  go_wp2_with (first|(go_at_call 175;(with_reducible refine(V1.out _).mono ?_);rintro e w' ⟨rfl,bs,dr,rfl⟩)|(go_at_call 175;(with_reducible refine(V2.out _).mono ?_);rintro e w' ⟨rfl,bs2,dr2,rfl⟩))
  refine TS.begin [16,17] (World.Grows _) (by kernel_rfl) (by kernel_rfl) grows_drew (fun hS=>?_)
  refine TS.wkB 0 hS ?_
  refine TS.wkB 1 hS ?_
  refine TS.wkB 2 hS ?_
  refine TS.takeC (i:=3) (v:=(.int .u64 (absI an))) (fn:=177) (args:=#[.int .i64 an]) rfl (by kernel_rfl) (by kernel_rfl) (by kernel_rfl) (by decide) (fun _ _ _ h=>h) rfl hS ?_ ?_ ?_
  focus
   rintro wS ⟨gbS,gdS,rfl⟩
   go_simp
  focus exact fun wS _=>(Z.out _ (by assumption) wS)
  (try simp only [nS])
  refine TS.wkB 4 hS ?_
  refine TS.wkB 5 hS ?_
  refine TS.takeC (i:=6) (v:=(.int .u64 (absI ad))) (fn:=177) (args:=#[.int .i64 ad]) rfl (by kernel_rfl) (by kernel_rfl) (by kernel_rfl) (by decide) (fun _ _ _ h=>h) rfl hS ?_ ?_ ?_
  focus
   rintro wS ⟨gbS,gdS,rfl⟩
   go_simp
  focus exact fun wS _=>(Z.out _ (by assumption) wS)
  (try simp only [nS])
  refine TS.wkB 7 hS ?_
  refine TS.wkB 8 hS ?_
  refine TS.takeC (i:=9) (v:=(.int .u64 (absI bd))) (fn:=177) (args:=#[.int .i64 bd]) rfl (by kernel_rfl) (by kernel_rfl) (by kernel_rfl) (by decide) (fun _ _ _ h=>h) rfl hS ?_ ?_ ?_
  focus
   rintro wS ⟨gbS,gdS,rfl⟩
   go_simp
  focus exact fun wS _=>(Z.out _ (by assumption) wS)
  (try simp only [nS])
  refine TS.wkB 10 hS ?_
  refine TS.wkB 11 hS ?_
  refine TS.takeC (i:=12) (v:=(.int .u64 (absI bn))) (fn:=177) (args:=#[.int .i64 bn]) rfl (by kernel_rfl) (by kernel_rfl) (by kernel_rfl) (by decide) (fun _ _ _ h=>h) rfl hS ?_ ?_ ?_
  focus
   rintro wS ⟨gbS,gdS,rfl⟩
   go_simp
  focus exact fun wS _=>(Z.out _ (by assumption) wS)
  (try simp only [nS])
  refine TS.one (i:=13) (by kernel_rfl) rfl (fun K1 hK1=>?_)
  go_simp
  go_at_call 185
  refine(Q.out _).mono ?_
  rintro e' wA ⟨rfl,bA,dA,rfl⟩
  refine TS.go hK1 (by first|exact⟨_,_,World.grow_grow _ _ _ _ _⟩|exact⟨_,_,rfl⟩) (fun hS=>?_)
  clear hK1 K1
  (try simp only [nS])
  refine TS.wkB 14 hS ?_
  refine TS.wkB 15 hS ?_
  refine TS.wtB 16 ?_
  refine TS.weB 17 ?_
  clear hS
  go_wp2_with fail
  go_returns
  exact⟨rfl,.of_below belB⟩
end Go.Proofs.YtfoefpoaomepbaaGreatDoor
