import Derived.Test.YtlheailebbngiaaGreatDoorGFrPd
import Derived.Test.YtlheailebbngiaaGreatDoorGFrC1
set_option linter.all false
set_option maxHeartbeats 16000000
set_option maxRecDepth 1000000
namespace Go.Proofs.YtlheailebbngiaaGreatDoor
open Tryz List
open Go.RowKit
theorem vU{b c:Bool}{n d m k:Nat}(h:n=0\/m=0\/b=c):nL b n d m k=nL c n d m k:=by
 rcases h with rfl|rfl|rfl
 ·have:ik 0 k m d=0:=by simp [ik]
  unfold nL;rw [this];cases b<;>cases c<;>simp
 ·have:ik n k 0 d=0:=by simp [ik]
  unfold nL;rw [this];cases b<;>cases c<;>simp
 ·rfl
def yP(s1 s2 s3 s4 neg:Bool):Prop:=(s1=true/\s2=true/\neg=true)\/(s1=true/\s2=false/\s3=false/\neg=false)\/(s1=false/\s3=true/\s4=true/\neg=true)\/(s1=false/\s3=true/\s4=false/\neg=false)\/(s1=false/\s3=false/\neg=false)
theorem ED(an bn:Int):∃neg,yP (decide (an<0)) (decide (0<bn)) (decide (0<an)) (decide (bn<0)) neg/\(an.natAbs=0\/bn.natAbs=0\/neg=(decide (an<0)!=decide (bn<0))):=by
 by_cases h1:an<0
 ·by_cases h2:0<bn
  ·exact⟨true,.inl (by simp [h1,h2]),by right;right;simp [h1];omega⟩
  ·refine⟨false,.inr (.inl (by simp [h1,h2];omega)), ?_⟩;by_cases h3:bn=0
   ·exact .inr (.inl ze)
   ·right;right;simp [h1];omega
 ·by_cases h2:0<an
  ·by_cases h3:bn<0
   ·exact⟨true,.inr (.inr (.inl (by simp [h1,h2,h3]))),by right;right;simp [h1,h3]⟩
   ·exact⟨false,.inr (.inr (.inr (.inl (by simp [h1,h2,h3])))),by right;right;simp [h1,h3]⟩
  ·exact⟨false,.inr (.inr (.inr (.inr (by simp [h1,h2])))),.inl ze⟩
theorem FY(an ad bn bd n1 n2 n3:Int)(s1 s2 s3 s4 neg:Bool)(w:World)(h1:decide (an<0)=s1)(h2:decide (0<bn)=s2)(h3:decide (0<an)=s3)(h4:decide (bn<0)=s4)(hc:yP s1 s2 s3 s4 neg)
 (V1:Hid (∀w,Calls prog 55 #[.agg #[.int .i64 an,.int .i64 ad]] w fun e w'=>e= .returned (.bool true)/\w.Grows w')) (V2:Hid (∀w,Calls prog 55 #[.agg #[.int .i64 bn,.int .i64 bd]] w fun e w'=>e= .returned (.bool true)/\w.Grows w'))
 (Z:Hid (∀n,I64 n->∀w,Calls prog 95 #[.int .i64 n] w fun e w'=>e= .returned (.int .u64 (aH n))/\w=w')) (I1:I64 an) (I2:I64 ad) (I3:I64 bn) (I4:I64 bd)
 (Q:Hid (∀w,Calls prog 189 #[.bool neg,.int .u64 (aH an),.int .u64 (aH ad),.int .u64 (aH bn),.int .u64 (aH bd)] w fun e w'=>(e= .returned (.tuple #[.agg #[.int .i64 n1,.int .i64 n2],.int .i64 n3])/\w.Grows w')))
 :Calls prog 146 (#[.agg #[.int .i64 an,.int .i64 ad],.agg #[.int .i64 bn,.int .i64 bd]]) w fun e w'=>(e= .returned (.tuple #[.agg #[.int .i64 n1,.int .i64 n2],.int .i64 n3])/\w.Grows w'):=by
 rcases hc with ⟨rfl,rfl,rfl⟩|⟨rfl,rfl,rfl,rfl⟩|⟨rfl,rfl,rfl,rfl⟩|⟨rfl,rfl,rfl,rfl⟩|⟨rfl,rfl,rfl⟩
 all_goals
  go_enter func146,ntmps146
  go_wp2_with (first|(go_at_call 55;(with_reducible refine(V1.out _).mono ?_);rintro e w' ⟨rfl,bs,dr,rfl⟩)|(go_at_call 55;(with_reducible refine(V2.out _).mono ?_);rintro e w' ⟨rfl,bs2,dr2,rfl⟩))
  refine TS.begin [16,17] (World.Grows _) zf zf aJ (fun hS=>?_);refine TS.wkB 0 hS ?_;refine TS.wkB 1 hS ?_;refine TS.wkB 2 hS ?_;refine TS.takeC (i:=3) (v:=(.int .u64 (aH an))) (fn:=95) (args:=#[.int .i64 an]) rfl zf zf zf zo (fun _ _ _ h=>h) rfl hS ?_ ?_ ?_
  focus
   rintro wS ⟨gbS,gdS,rfl⟩
   go_simp
  focus exact fun wS _=>(Z.out _ zv wS)
  (try simp only [nS])
  refine TS.wkB 4 hS ?_;refine TS.wkB 5 hS ?_;refine TS.takeC (i:=6) (v:=(.int .u64 (aH ad))) (fn:=95) (args:=#[.int .i64 ad]) rfl zf zf zf zo (fun _ _ _ h=>h) rfl hS ?_ ?_ ?_
  focus
   rintro wS ⟨gbS,gdS,rfl⟩
   go_simp
  focus exact fun wS _=>(Z.out _ zv wS)
  (try simp only [nS])
  refine TS.wkB 7 hS ?_;refine TS.wkB 8 hS ?_;refine TS.takeC (i:=9) (v:=(.int .u64 (aH bn))) (fn:=95) (args:=#[.int .i64 bn]) rfl zf zf zf zo (fun _ _ _ h=>h) rfl hS ?_ ?_ ?_
  focus
   rintro wS ⟨gbS,gdS,rfl⟩
   go_simp
  focus exact fun wS _=>(Z.out _ zv wS)
  (try simp only [nS])
  refine TS.wkB 10 hS ?_;refine TS.wkB 11 hS ?_;refine TS.takeC (i:=12) (v:=(.int .u64 (aH bd))) (fn:=95) (args:=#[.int .i64 bd]) rfl zf zf zf zo (fun _ _ _ h=>h) rfl hS ?_ ?_ ?_
  focus
   rintro wS ⟨gbS,gdS,rfl⟩
   go_simp
  focus exact fun wS _=>(Z.out _ zv wS)
  (try simp only [nS])
  refine TS.one (i:=13) zf rfl (fun K1 hK1=>?_)
  go_simp
  go_at_call 189
  refine(Q.out _).mono ?_;rintro e' wA ⟨rfl,bA,dA,rfl⟩;refine TS.go hK1 zA (fun hS=>?_);clear hK1 K1
  (try simp only [nS])
  refine TS.wkB 14 hS ?_;refine TS.wkB 15 hS ?_;refine TS.wtB 16 ?_;refine TS.weB 17 ?_;clear hS
  go_wp2_with fail
  go_returns
  exact⟨rfl,.of_below af⟩
theorem GX(an ad bn bd n1 n2 n3:Int)(s1 s2 s3 s4 neg:Bool)(w:World)(h1:decide (an<0)=s1)(h2:decide (0<bn)=s2)(h3:decide (0<an)=s3)(h4:decide (bn<0)=s4)(hc:yP s1 s2 s3 s4 neg)(h5:(bn==0)=false)
 (V1:Hid (∀w,Calls prog 55 #[.agg #[.int .i64 an,.int .i64 ad]] w fun e w'=>e= .returned (.bool true)/\w.Grows w')) (V2:Hid (∀w,Calls prog 55 #[.agg #[.int .i64 bn,.int .i64 bd]] w fun e w'=>e= .returned (.bool true)/\w.Grows w'))
 (Z:Hid (∀n,I64 n->∀w,Calls prog 95 #[.int .i64 n] w fun e w'=>e= .returned (.int .u64 (aH n))/\w=w')) (I1:I64 an) (I2:I64 ad) (I3:I64 bn) (I4:I64 bd)
 (Q:Hid (∀w,Calls prog 189 #[.bool neg,.int .u64 (aH an),.int .u64 (aH ad),.int .u64 (aH bd),.int .u64 (aH bn)] w fun e w'=>(e= .returned (.tuple #[.agg #[.int .i64 n1,.int .i64 n2],.int .i64 n3])/\w.Grows w')))
 :Calls prog 147 (#[.agg #[.int .i64 an,.int .i64 ad],.agg #[.int .i64 bn,.int .i64 bd]]) w fun e w'=>(e= .returned (.tuple #[.agg #[.int .i64 n1,.int .i64 n2],.int .i64 n3])/\w.Grows w'):=by
 rcases hc with ⟨rfl,rfl,rfl⟩|⟨rfl,rfl,rfl,rfl⟩|⟨rfl,rfl,rfl,rfl⟩|⟨rfl,rfl,rfl,rfl⟩|⟨rfl,rfl,rfl⟩
 all_goals
  go_enter func147,ntmps147
  go_wp2_with (first|(go_at_call 55;(with_reducible refine(V1.out _).mono ?_);rintro e w' ⟨rfl,bs,dr,rfl⟩)|(go_at_call 55;(with_reducible refine(V2.out _).mono ?_);rintro e w' ⟨rfl,bs2,dr2,rfl⟩))
  refine TS.begin [16,17] (World.Grows _) zf zf aJ (fun hS=>?_);refine TS.wkB 0 hS ?_;refine TS.wkB 1 hS ?_;refine TS.wkB 2 hS ?_;refine TS.takeC (i:=3) (v:=(.int .u64 (aH an))) (fn:=95) (args:=#[.int .i64 an]) rfl zf zf zf zo (fun _ _ _ h=>h) rfl hS ?_ ?_ ?_
  focus
   rintro wS ⟨gbS,gdS,rfl⟩
   go_simp
  focus exact fun wS _=>(Z.out _ zv wS)
  (try simp only [nS])
  refine TS.wkB 4 hS ?_;refine TS.wkB 5 hS ?_;refine TS.takeC (i:=6) (v:=(.int .u64 (aH ad))) (fn:=95) (args:=#[.int .i64 ad]) rfl zf zf zf zo (fun _ _ _ h=>h) rfl hS ?_ ?_ ?_
  focus
   rintro wS ⟨gbS,gdS,rfl⟩
   go_simp
  focus exact fun wS _=>(Z.out _ zv wS)
  (try simp only [nS])
  refine TS.wkB 7 hS ?_;refine TS.wkB 8 hS ?_;refine TS.takeC (i:=9) (v:=(.int .u64 (aH bd))) (fn:=95) (args:=#[.int .i64 bd]) rfl zf zf zf zo (fun _ _ _ h=>h) rfl hS ?_ ?_ ?_
  focus
   rintro wS ⟨gbS,gdS,rfl⟩
   go_simp
  focus exact fun wS _=>(Z.out _ zv wS)
  (try simp only [nS])
  refine TS.wkB 10 hS ?_;refine TS.wkB 11 hS ?_;refine TS.takeC (i:=12) (v:=(.int .u64 (aH bn))) (fn:=95) (args:=#[.int .i64 bn]) rfl zf zf zf zo (fun _ _ _ h=>h) rfl hS ?_ ?_ ?_
  focus
   rintro wS ⟨gbS,gdS,rfl⟩
   go_simp
  focus exact fun wS _=>(Z.out _ zv wS)
  (try simp only [nS])
  refine TS.one (i:=13) zf rfl (fun K1 hK1=>?_)
  go_simp
  go_at_call 189
  refine(Q.out _).mono ?_;rintro e' wA ⟨rfl,bA,dA,rfl⟩;refine TS.go hK1 zA (fun hS=>?_);clear hK1 K1
  (try simp only [nS])
  refine TS.wkB 14 hS ?_;refine TS.wkB 15 hS ?_;refine TS.wtB 16 ?_;refine TS.weB 17 ?_;clear hS
  go_wp2_with fail
  go_returns
  exact⟨rfl,.of_below af⟩

theorem FZ(an ad bn bd n1 n2 n3:Int)(s t:Bool)(w:World)(h1:decide (an<0)=s)(h2:decide (bn<0)=t)(u1:IntKind.u64.wrap ad=ad)(u2:IntKind.u64.wrap bd=bd)
 (V1:Hid (∀w,Calls prog 60 #[.agg #[.int .i64 an,.int .i64 ad]] w fun e w'=>e= .returned (.bool true)/\w.Grows w')) (V2:Hid (∀w,Calls prog 60 #[.agg #[.int .i64 bn,.int .i64 bd]] w fun e w'=>e= .returned (.bool true)/\w.Grows w'))
 (Z:Hid (∀n,I64 n->∀w,Calls prog 91 #[.int .i64 n] w fun e w'=>e= .returned (.int .u64 (aH n))/\w=w')) (I1:I64 an) (I2:I64 ad) (I3:I64 bn) (I4:I64 bd)
 (Q:Hid (∀w,Calls prog 192 #[.bool (s !=t),.int .u64 (aH an),.int .u64 ad,.int .u64 (aH bn),.int .u64 bd] w fun e w'=>(e= .returned (.tuple #[.agg #[.int .i64 n1,.int .i64 n2],.int .i64 n3])/\w.Grows w')))
 :Calls prog 153 (#[.agg #[.int .i64 an,.int .i64 ad],.agg #[.int .i64 bn,.int .i64 bd]]) w fun e w'=>(e= .returned (.tuple #[.agg #[.int .i64 n1,.int .i64 n2],.int .i64 n3])/\w.Grows w'):=by
 go_enter func153,ntmps153
 go_wp2_with (first|(go_at_call 60;(with_reducible refine(V1.out _).mono ?_);rintro e w' ⟨rfl,bs,dr,rfl⟩)|(go_at_call 60;(with_reducible refine(V2.out _).mono ?_);rintro e w' ⟨rfl,bs2,dr2,rfl⟩))
 refine TS.begin [22,23] (World.Grows _) zf zf aJ (fun hS=>?_);refine TS.wkB 0 hS ?_;refine TS.wkB 1 hS ?_;refine TS.wkB 2 hS ?_;refine TS.wkB 3 hS ?_;refine TS.wkB 4 hS ?_;refine TS.wkB 5 hS ?_;refine TS.wkB 6 hS ?_;refine TS.wkB 7 hS ?_;refine TS.wkB 8 hS ?_;refine TS.takeC (i:=9) (v:=(.int .u64 (aH an))) (fn:=91) (args:=#[.int .i64 an]) rfl zf zf zf zo (fun _ _ _ h=>h) rfl hS ?_ ?_ ?_
 focus
  rintro wS ⟨gbS,gdS,rfl⟩
  go_simp
 focus exact fun wS _=>(Z.out _ zv wS)
 (try simp only [nS])
 refine TS.wkB 10 hS ?_;refine TS.wkB 11 hS ?_;refine TS.wkB 12 hS ?_;refine TS.wkB 13 hS ?_;refine TS.wkB 14 hS ?_;refine TS.takeC (i:=15) (v:=(.int .u64 (aH bn))) (fn:=91) (args:=#[.int .i64 bn]) rfl zf zf zf zo (fun _ _ _ h=>h) rfl hS ?_ ?_ ?_
 focus
  rintro wS ⟨gbS,gdS,rfl⟩
  go_simp
 focus exact fun wS _=>(Z.out _ zv wS)
 (try simp only [nS])
 refine TS.wkB 16 hS ?_;refine TS.wkB 17 hS ?_;refine TS.wkB 18 hS ?_;refine TS.one (i:=19) zf rfl (fun K1 hK1=>?_)
 go_simp
 go_at_call 192
 refine(Q.out _).mono ?_;rintro e' wA ⟨rfl,bA,dA,rfl⟩;refine TS.go hK1 zA (fun hS=>?_);clear hK1 K1
 (try simp only [nS])
 refine TS.wkB 20 hS ?_;refine TS.wkB 21 hS ?_;refine TS.wtB 22 ?_;refine TS.weB 23 ?_;clear hS
 go_wp2_with fail
 go_returns
 exact⟨rfl,.of_below af⟩
theorem GZ(an ad bn bd n1 n2 n3:Int)(s t:Bool)(w:World)(h1:decide (an<0)=s)(h2:decide (bn<0)=t)(u1:IntKind.u64.wrap ad=ad)(u2:IntKind.u64.wrap bd=bd)(h5:(bn==0)=false)
 (V1:Hid (∀w,Calls prog 60 #[.agg #[.int .i64 an,.int .i64 ad]] w fun e w'=>e= .returned (.bool true)/\w.Grows w')) (V2:Hid (∀w,Calls prog 60 #[.agg #[.int .i64 bn,.int .i64 bd]] w fun e w'=>e= .returned (.bool true)/\w.Grows w'))
 (Z:Hid (∀n,I64 n->∀w,Calls prog 91 #[.int .i64 n] w fun e w'=>e= .returned (.int .u64 (aH n))/\w=w')) (I1:I64 an) (I2:I64 ad) (I3:I64 bn) (I4:I64 bd)
 (Q:Hid (∀w,Calls prog 192 #[.bool (s !=t),.int .u64 (aH an),.int .u64 ad,.int .u64 bd,.int .u64 (aH bn)] w fun e w'=>(e= .returned (.tuple #[.agg #[.int .i64 n1,.int .i64 n2],.int .i64 n3])/\w.Grows w')))
 :Calls prog 154 (#[.agg #[.int .i64 an,.int .i64 ad],.agg #[.int .i64 bn,.int .i64 bd]]) w fun e w'=>(e= .returned (.tuple #[.agg #[.int .i64 n1,.int .i64 n2],.int .i64 n3])/\w.Grows w'):=by
 go_enter func154,ntmps154
 go_wp2_with (first|(go_at_call 60;(with_reducible refine(V1.out _).mono ?_);rintro e w' ⟨rfl,bs,dr,rfl⟩)|(go_at_call 60;(with_reducible refine(V2.out _).mono ?_);rintro e w' ⟨rfl,bs2,dr2,rfl⟩))
 refine TS.begin [22,23] (World.Grows _) zf zf aJ (fun hS=>?_);refine TS.wkB 0 hS ?_;refine TS.wkB 1 hS ?_;refine TS.wkB 2 hS ?_;refine TS.wkB 3 hS ?_;refine TS.wkB 4 hS ?_;refine TS.wkB 5 hS ?_;refine TS.wkB 6 hS ?_;refine TS.wkB 7 hS ?_;refine TS.wkB 8 hS ?_;refine TS.takeC (i:=9) (v:=(.int .u64 (aH an))) (fn:=91) (args:=#[.int .i64 an]) rfl zf zf zf zo (fun _ _ _ h=>h) rfl hS ?_ ?_ ?_
 focus
  rintro wS ⟨gbS,gdS,rfl⟩
  go_simp
 focus exact fun wS _=>(Z.out _ zv wS)
 (try simp only [nS])
 refine TS.wkB 10 hS ?_;refine TS.wkB 11 hS ?_;refine TS.wkB 12 hS ?_;refine TS.wkB 13 hS ?_;refine TS.wkB 14 hS ?_;refine TS.wkB 15 hS ?_;refine TS.wkB 16 hS ?_;refine TS.wkB 17 hS ?_;refine TS.takeC (i:=18) (v:=(.int .u64 (aH bn))) (fn:=91) (args:=#[.int .i64 bn]) rfl zf zf zf zo (fun _ _ _ h=>h) rfl hS ?_ ?_ ?_
 focus
  rintro wS ⟨gbS,gdS,rfl⟩
  go_simp
 focus exact fun wS _=>(Z.out _ zv wS)
 (try simp only [nS])
 refine TS.one (i:=19) zf rfl (fun K1 hK1=>?_)
 go_simp
 go_at_call 192
 refine(Q.out _).mono ?_;rintro e' wA ⟨rfl,bA,dA,rfl⟩;refine TS.go hK1 zA (fun hS=>?_);clear hK1 K1
 (try simp only [nS])
 refine TS.wkB 20 hS ?_;refine TS.wkB 21 hS ?_;refine TS.wtB 22 ?_;refine TS.weB 23 ?_;clear hS
 go_wp2_with fail
 go_returns
 exact⟨rfl,.of_below af⟩
theorem M9(an ad bn bd:Int)(p q:Bool)(w:World)(hpq:(p&&q)=false)
 (V1:Hid (∀w,Calls prog 60 #[.agg #[.int .i64 an,.int .i64 ad]] w fun e w'=>e= .returned (.bool p)/\w.Grows w')) (V2:Hid (∀w,Calls prog 60 #[.agg #[.int .i64 bn,.int .i64 bd]] w fun e w'=>e= .returned (.bool q)/\w.Grows w'))
 :Calls prog 153 (#[.agg #[.int .i64 an,.int .i64 ad],.agg #[.int .i64 bn,.int .i64 bd]]) w fun e w'=>e= .returned (frV (0,0,1))/\w.Grows w':=by
 cases p<;>cases q
 all_goals first
  |(exfalso;simp at hpq;done)
  |clear hpq
 all_goals
  go_enter func153,ntmps153
  go_wp2_with (first|(go_at_call 60;(with_reducible refine(V1.out _).mono ?_);rintro e w' ⟨rfl,bs,dr,rfl⟩)|(go_at_call 60;(with_reducible refine(V2.out _).mono ?_);rintro e w' ⟨rfl,bs2,dr2,rfl⟩))
  go_returns
  exact⟨rfl,.of_below af⟩
theorem NU(an ad bn bd:Int)(p q:Bool)(w:World)(hpq:(p&&q)=false)
 (V1:Hid (∀w,Calls prog 60 #[.agg #[.int .i64 an,.int .i64 ad]] w fun e w'=>e= .returned (.bool p)/\w.Grows w')) (V2:Hid (∀w,Calls prog 60 #[.agg #[.int .i64 bn,.int .i64 bd]] w fun e w'=>e= .returned (.bool q)/\w.Grows w'))
 :Calls prog 154 (#[.agg #[.int .i64 an,.int .i64 ad],.agg #[.int .i64 bn,.int .i64 bd]]) w fun e w'=>e= .returned (frV (0,0,1))/\w.Grows w':=by
 cases p<;>cases q
 all_goals first
  |(exfalso;simp at hpq;done)
  |clear hpq
 all_goals
  go_enter func154,ntmps154
  go_wp2_with (first|(go_at_call 60;(with_reducible refine(V1.out _).mono ?_);rintro e w' ⟨rfl,bs,dr,rfl⟩)|(go_at_call 60;(with_reducible refine(V2.out _).mono ?_);rintro e w' ⟨rfl,bs2,dr2,rfl⟩))
  go_returns
  exact⟨rfl,.of_below af⟩
theorem Om(an ad bn bd:Int)(p q:Bool)(w:World)(hpq:(p&&q)=false)
 (V1:Hid (∀w,Calls prog 60 #[.agg #[.int .i64 an,.int .i64 ad]] w fun e w'=>e= .returned (.bool p)/\w.Grows w')) (V2:Hid (∀w,Calls prog 60 #[.agg #[.int .i64 bn,.int .i64 bd]] w fun e w'=>e= .returned (.bool q)/\w.Grows w'))
 :Calls prog 151 (#[.agg #[.int .i64 an,.int .i64 ad],.agg #[.int .i64 bn,.int .i64 bd]]) w fun e w'=>e= .returned (frV (0,0,1))/\w.Grows w':=by
 cases p<;>cases q
 all_goals first
  |(exfalso;simp at hpq;done)
  |clear hpq
 all_goals
  go_enter func151,ntmps151
  go_wp2_with (first|(go_at_call 60;(with_reducible refine(V1.out _).mono ?_);rintro e w' ⟨rfl,bs,dr,rfl⟩)|(go_at_call 60;(with_reducible refine(V2.out _).mono ?_);rintro e w' ⟨rfl,bs2,dr2,rfl⟩))
  go_returns
  exact⟨rfl,.of_below af⟩
theorem M8(an ad bn bd:Int)(p q:Bool)(w:World)(hpq:(p&&q)=false)
 (V1:Hid (∀w,Calls prog 55 #[.agg #[.int .i64 an,.int .i64 ad]] w fun e w'=>e= .returned (.bool p)/\w.Grows w')) (V2:Hid (∀w,Calls prog 55 #[.agg #[.int .i64 bn,.int .i64 bd]] w fun e w'=>e= .returned (.bool q)/\w.Grows w'))
 :Calls prog 146 (#[.agg #[.int .i64 an,.int .i64 ad],.agg #[.int .i64 bn,.int .i64 bd]]) w fun e w'=>e= .returned (frV (0,0,1))/\w.Grows w':=by
 cases p<;>cases q
 all_goals first
  |(exfalso;simp at hpq;done)
  |clear hpq
 all_goals
  go_enter func146,ntmps146
  go_wp2_with (first|(go_at_call 55;(with_reducible refine(V1.out _).mono ?_);rintro e w' ⟨rfl,bs,dr,rfl⟩)|(go_at_call 55;(with_reducible refine(V2.out _).mono ?_);rintro e w' ⟨rfl,bs2,dr2,rfl⟩))
  go_returns
  exact⟨rfl,.of_below af⟩
theorem NT(an ad bn bd:Int)(p q:Bool)(w:World)(hpq:(p&&q)=false)
 (V1:Hid (∀w,Calls prog 55 #[.agg #[.int .i64 an,.int .i64 ad]] w fun e w'=>e= .returned (.bool p)/\w.Grows w')) (V2:Hid (∀w,Calls prog 55 #[.agg #[.int .i64 bn,.int .i64 bd]] w fun e w'=>e= .returned (.bool q)/\w.Grows w'))
 :Calls prog 147 (#[.agg #[.int .i64 an,.int .i64 ad],.agg #[.int .i64 bn,.int .i64 bd]]) w fun e w'=>e= .returned (frV (0,0,1))/\w.Grows w':=by
 cases p<;>cases q
 all_goals first
  |(exfalso;simp at hpq;done)
  |clear hpq
 all_goals
  go_enter func147,ntmps147
  go_wp2_with (first|(go_at_call 55;(with_reducible refine(V1.out _).mono ?_);rintro e w' ⟨rfl,bs,dr,rfl⟩)|(go_at_call 55;(with_reducible refine(V2.out _).mono ?_);rintro e w' ⟨rfl,bs2,dr2,rfl⟩))
  go_returns
  exact⟨rfl,.of_below af⟩
theorem Ol(an ad bn bd:Int)(p q:Bool)(w:World)(hpq:(p&&q)=false)
 (V1:Hid (∀w,Calls prog 55 #[.agg #[.int .i64 an,.int .i64 ad]] w fun e w'=>e= .returned (.bool p)/\w.Grows w')) (V2:Hid (∀w,Calls prog 55 #[.agg #[.int .i64 bn,.int .i64 bd]] w fun e w'=>e= .returned (.bool q)/\w.Grows w'))
 :Calls prog 144 (#[.agg #[.int .i64 an,.int .i64 ad],.agg #[.int .i64 bn,.int .i64 bd]]) w fun e w'=>e= .returned (frV (0,0,1))/\w.Grows w':=by
 cases p<;>cases q
 all_goals first
  |(exfalso;simp at hpq;done)
  |clear hpq
 all_goals
  go_enter func144,ntmps144
  go_wp2_with (first|(go_at_call 55;(with_reducible refine(V1.out _).mono ?_);rintro e w' ⟨rfl,bs,dr,rfl⟩)|(go_at_call 55;(with_reducible refine(V2.out _).mono ?_);rintro e w' ⟨rfl,bs2,dr2,rfl⟩))
  go_returns
  exact⟨rfl,.of_below af⟩
theorem GY(an ad bd:Int)(w:World)
 (V1:Hid (∀w,Calls prog 60 #[.agg #[.int .i64 an,.int .i64 ad]] w fun e w'=>e= .returned (.bool true)/\w.Grows w')) (V2:Hid (∀w,Calls prog 60 #[.agg #[.int .i64 0,.int .i64 bd]] w fun e w'=>e= .returned (.bool true)/\w.Grows w'))
 :Calls prog 154 #[.agg #[.int .i64 an,.int .i64 ad],.agg #[.int .i64 0,.int .i64 bd]] w fun e w'=>e= .returned (frV (0,0,3))/\w.Grows w':=by
 go_enter func154,ntmps154
 go_wp2_with (first|(go_at_call 60;(with_reducible refine(V1.out _).mono ?_);rintro e w' ⟨rfl,bs,dr,rfl⟩)|(go_at_call 60;(with_reducible refine(V2.out _).mono ?_);rintro e w' ⟨rfl,bs2,dr2,rfl⟩))
 go_returns
 exact⟨rfl,.of_below af⟩
theorem GV(an ad bd:Int)(w:World)
 (V1:Hid (∀w,Calls prog 55 #[.agg #[.int .i64 an,.int .i64 ad]] w fun e w'=>e= .returned (.bool true)/\w.Grows w')) (V2:Hid (∀w,Calls prog 55 #[.agg #[.int .i64 0,.int .i64 bd]] w fun e w'=>e= .returned (.bool true)/\w.Grows w'))
 :Calls prog 147 #[.agg #[.int .i64 an,.int .i64 ad],.agg #[.int .i64 0,.int .i64 bd]] w fun e w'=>e= .returned (frV (0,0,3))/\w.Grows w':=by
 go_enter func147,ntmps147
 go_wp2_with (first|(go_at_call 55;(with_reducible refine(V1.out _).mono ?_);rintro e w' ⟨rfl,bs,dr,rfl⟩)|(go_at_call 55;(with_reducible refine(V2.out _).mono ?_);rintro e w' ⟨rfl,bs2,dr2,rfl⟩))
 go_returns
 exact⟨rfl,.of_below af⟩

theorem Iu(an ad bn bd xh xl yh yl zhx zl D n1 n2 n3:Int)(s:Bool)(w:World)(h1:decide (an<0)=s)(h2:decide (bn<0)=s)
 (V1:Hid (∀w,Calls prog 60 #[.agg #[.int .i64 an,.int .i64 ad]] w fun e w'=>e= .returned (.bool true)/\w.Grows w')) (V2:Hid (∀w,Calls prog 60 #[.agg #[.int .i64 bn,.int .i64 bd]] w fun e w'=>e= .returned (.bool true)/\w.Grows w'))
 (Z:Hid (∀n,I64 n->∀w,Calls prog 91 #[.int .i64 n] w fun e w'=>e= .returned (.int .u64 (aH n))/\w=w')) (I1:I64 an) (I2:I64 ad) (I3:I64 bn) (I4:I64 bd)
 (T1:Hid (∀w,Calls prog 101 #[.int .u64 (aH an),.int .u64 bd] w fun e w'=>e= .returned (.agg #[.int .u64 xh,.int .u64 xl])/\w.Grows w')) (T2:Hid (∀w,Calls prog 101 #[.int .u64 (aH bn),.int .u64 ad] w fun e w'=>e= .returned (.agg #[.int .u64 yh,.int .u64 yl])/\w.Grows w')) (u1:IntKind.u64.wrap ad=ad) (u2:IntKind.u64.wrap bd=bd) (u3:IntKind.u64.wrap (ad*bd)=D)
 (O:Hid (∀w,Calls prog 190 #[.agg #[.int .u64 xh,.int .u64 xl],.agg #[.int .u64 yh,.int .u64 yl]] w fun e w'=>e= .returned (.agg #[.int .u64 zhx,.int .u64 zl])/\w.Grows w'))
 (Q:Hid (∀w,Calls prog 90 #[.bool s,.agg #[.int .u64 zhx,.int .u64 zl],.int .u64 D] w fun e w'=>(e= .returned (.tuple #[.agg #[.int .i64 n1,.int .i64 n2],.int .i64 n3])/\w.Grows w')))
 :Calls prog 151 (#[.agg #[.int .i64 an,.int .i64 ad],.agg #[.int .i64 bn,.int .i64 bd]]) w fun e w'=>(e= .returned (.tuple #[.agg #[.int .i64 n1,.int .i64 n2],.int .i64 n3])/\w.Grows w'):=by
 have L:Hid True:=zh trivial
 go_enter func151,ntmps151
 go_wp2_with (first|(go_at_call 60;(with_reducible refine(V1.out _).mono ?_);rintro e w' ⟨rfl,bs,dr,rfl⟩)|(go_at_call 60;(with_reducible refine(V2.out _).mono ?_);rintro e w' ⟨rfl,bs2,dr2,rfl⟩))
 generalize bs++bs2=B;apply aM 16 (14,6,.cells #[.int .u64 0,.int .u64 0] 158) (15,7,.cells #[.int .u64 0,.int .u64 0] 158) zf zf
 case hrx=>
  intro o ho ρ w;obtain rfl:=Option.some.inj ho;simp [go_sem]
 case hry=>
  intro o ho ρ w;obtain rfl:=Option.some.inj ho;simp [go_sem]
 case h1=>
  intro bs d;simp only [take_succ_cons,take_zero,map_cons,map_nil,Oper.mask];repeat(go_big_quiet_step ((first|(go_at_call 91;(with_reducible exact Calls.quietMS3 (Z.out _ zv _)))|(go_at_call 101;first|(with_reducible exact Calls.quietM3 (T1.out _))|(with_reducible exact Calls.quietM3 (T2.out _))))))
  exact wpQuiet_nil rfl
 all_goals
  intro gb1 gd1 gb2 gd2 gb gd;simp only [drop_succ_cons,drop_zero,Act.put,setIfInBounds_toArray,set_cons_zero,set_cons_succ,World.grow_grow,World.size_grow,World.size_alloc,Array.size_append]
 all_goals
  go_wp2_with (first|(go_at_call 102;(with_reducible refine(L.out _).mono ?_);rintro e w' ⟨rfl,bs3,dr3,rfl⟩))
  refine TS.begin [10,11] (World.Grows _) zf zf aJ (fun hS=>?_);refine TS.wkB 0 hS ?_;refine TS.wkB 1 hS ?_;refine TS.wkB 2 hS ?_;refine TS.wkB 3 hS ?_;refine TS.wkB 4 hS ?_;refine TS.wkB 6 hS ?_;refine TS.one (i:=5) zf rfl (fun K1 hK1=>?_)
  go_simp
  go_at_call 190
  refine(O.out _).mono ?_;rintro e' wA ⟨rfl,bA,dA,rfl⟩;refine TS.go hK1 zA (fun hS=>?_);clear hK1 K1
  (try simp only [nS])
  refine TS.one (i:=7) zf rfl (fun K1 hK1=>?_)
  go_simp
  go_at_call 90
  refine(Q.out _).mono ?_;rintro e' wA ⟨rfl,bA,dA,rfl⟩;refine TS.go hK1 zA (fun hS=>?_);clear hK1 K1
  (try simp only [nS])
  refine TS.wkB 8 hS ?_;refine TS.wkB 9 hS ?_;refine TS.wtB 10 ?_;refine TS.weB 11 ?_;clear hS
  go_wp2_with fail
  go_returns
  exact⟨rfl,.of_below af⟩
theorem Iy(an ad bn bd xh xl yh yl zhx zl D n1 n2 n3:Int)(s t:Bool)(w:World)(h1:decide (an<0)=s)(h2:decide (bn<0)=t)(h3:(s==t)=false)
 (V1:Hid (∀w,Calls prog 60 #[.agg #[.int .i64 an,.int .i64 ad]] w fun e w'=>e= .returned (.bool true)/\w.Grows w')) (V2:Hid (∀w,Calls prog 60 #[.agg #[.int .i64 bn,.int .i64 bd]] w fun e w'=>e= .returned (.bool true)/\w.Grows w'))
 (Z:Hid (∀n,I64 n->∀w,Calls prog 91 #[.int .i64 n] w fun e w'=>e= .returned (.int .u64 (aH n))/\w=w')) (I1:I64 an) (I2:I64 ad) (I3:I64 bn) (I4:I64 bd)
 (T1:Hid (∀w,Calls prog 101 #[.int .u64 (aH an),.int .u64 bd] w fun e w'=>e= .returned (.agg #[.int .u64 xh,.int .u64 xl])/\w.Grows w')) (T2:Hid (∀w,Calls prog 101 #[.int .u64 (aH bn),.int .u64 ad] w fun e w'=>e= .returned (.agg #[.int .u64 yh,.int .u64 yl])/\w.Grows w')) (u1:IntKind.u64.wrap ad=ad) (u2:IntKind.u64.wrap bd=bd) (u3:IntKind.u64.wrap (ad*bd)=D)
 (L:Hid (∀w,Calls prog 102 #[.agg #[.int .u64 xh,.int .u64 xl],.agg #[.int .u64 yh,.int .u64 yl]] w fun e w'=>e= .returned (.bool true)/\w.Grows w'))
 (O:Hid (∀w,Calls prog 191 #[.agg #[.int .u64 yh,.int .u64 yl],.agg #[.int .u64 xh,.int .u64 xl]] w fun e w'=>e= .returned (.agg #[.int .u64 zhx,.int .u64 zl])/\w.Grows w'))
 (Q:Hid (∀w,Calls prog 90 #[.bool t,.agg #[.int .u64 zhx,.int .u64 zl],.int .u64 D] w fun e w'=>(e= .returned (.tuple #[.agg #[.int .i64 n1,.int .i64 n2],.int .i64 n3])/\w.Grows w')))
 :Calls prog 151 (#[.agg #[.int .i64 an,.int .i64 ad],.agg #[.int .i64 bn,.int .i64 bd]]) w fun e w'=>(e= .returned (.tuple #[.agg #[.int .i64 n1,.int .i64 n2],.int .i64 n3])/\w.Grows w'):=by
 go_enter func151,ntmps151
 go_wp2_with (first|(go_at_call 60;(with_reducible refine(V1.out _).mono ?_);rintro e w' ⟨rfl,bs,dr,rfl⟩)|(go_at_call 60;(with_reducible refine(V2.out _).mono ?_);rintro e w' ⟨rfl,bs2,dr2,rfl⟩))
 generalize bs++bs2=B;apply aM 16 (14,6,.cells #[.int .u64 0,.int .u64 0] 158) (15,7,.cells #[.int .u64 0,.int .u64 0] 158) zf zf
 case hrx=>
  intro o ho ρ w;obtain rfl:=Option.some.inj ho;simp [go_sem]
 case hry=>
  intro o ho ρ w;obtain rfl:=Option.some.inj ho;simp [go_sem]
 case h1=>
  intro bs d;simp only [take_succ_cons,take_zero,map_cons,map_nil,Oper.mask];repeat(go_big_quiet_step ((first|(go_at_call 91;(with_reducible exact Calls.quietMS3 (Z.out _ zv _)))|(go_at_call 101;first|(with_reducible exact Calls.quietM3 (T1.out _))|(with_reducible exact Calls.quietM3 (T2.out _))))))
  exact wpQuiet_nil rfl
 all_goals
  intro gb1 gd1 gb2 gd2 gb gd;simp only [drop_succ_cons,drop_zero,Act.put,setIfInBounds_toArray,set_cons_zero,set_cons_succ,World.grow_grow,World.size_grow,World.size_alloc,Array.size_append]
 all_goals
  go_wp2_with (first|(go_at_call 102;(with_reducible refine(L.out _).mono ?_);rintro e w' ⟨rfl,bs3,dr3,rfl⟩))
  refine TS.begin [10,11] (World.Grows _) zf zf aJ (fun hS=>?_);refine TS.wkB 0 hS ?_;refine TS.wkB 1 hS ?_;refine TS.wkB 2 hS ?_;refine TS.wkB 3 hS ?_;refine TS.wkB 4 hS ?_;refine TS.wkB 6 hS ?_;refine TS.one (i:=5) zf rfl (fun K1 hK1=>?_)
  go_simp
  go_at_call 191
  refine(O.out _).mono ?_;rintro e' wA ⟨rfl,bA,dA,rfl⟩;refine TS.go hK1 zA (fun hS=>?_);clear hK1 K1
  (try simp only [nS])
  refine TS.one (i:=7) zf rfl (fun K1 hK1=>?_)
  go_simp
  go_at_call 90
  refine(Q.out _).mono ?_;rintro e' wA ⟨rfl,bA,dA,rfl⟩;refine TS.go hK1 zA (fun hS=>?_);clear hK1 K1
  (try simp only [nS])
  refine TS.wkB 8 hS ?_;refine TS.wkB 9 hS ?_;refine TS.wtB 10 ?_;refine TS.weB 11 ?_;clear hS
  go_wp2_with fail
  go_returns
  exact⟨rfl,.of_below af⟩
theorem Iw(an ad bn bd xh xl yh yl zhx zl D n1 n2 n3:Int)(s t:Bool)(w:World)(h1:decide (an<0)=s)(h2:decide (bn<0)=t)(h3:(s==t)=false)
 (V1:Hid (∀w,Calls prog 60 #[.agg #[.int .i64 an,.int .i64 ad]] w fun e w'=>e= .returned (.bool true)/\w.Grows w')) (V2:Hid (∀w,Calls prog 60 #[.agg #[.int .i64 bn,.int .i64 bd]] w fun e w'=>e= .returned (.bool true)/\w.Grows w'))
 (Z:Hid (∀n,I64 n->∀w,Calls prog 91 #[.int .i64 n] w fun e w'=>e= .returned (.int .u64 (aH n))/\w=w')) (I1:I64 an) (I2:I64 ad) (I3:I64 bn) (I4:I64 bd)
 (T1:Hid (∀w,Calls prog 101 #[.int .u64 (aH an),.int .u64 bd] w fun e w'=>e= .returned (.agg #[.int .u64 xh,.int .u64 xl])/\w.Grows w')) (T2:Hid (∀w,Calls prog 101 #[.int .u64 (aH bn),.int .u64 ad] w fun e w'=>e= .returned (.agg #[.int .u64 yh,.int .u64 yl])/\w.Grows w')) (u1:IntKind.u64.wrap ad=ad) (u2:IntKind.u64.wrap bd=bd) (u3:IntKind.u64.wrap (ad*bd)=D)
 (L:Hid (∀w,Calls prog 102 #[.agg #[.int .u64 xh,.int .u64 xl],.agg #[.int .u64 yh,.int .u64 yl]] w fun e w'=>e= .returned (.bool false)/\w.Grows w'))
 (O:Hid (∀w,Calls prog 191 #[.agg #[.int .u64 xh,.int .u64 xl],.agg #[.int .u64 yh,.int .u64 yl]] w fun e w'=>e= .returned (.agg #[.int .u64 zhx,.int .u64 zl])/\w.Grows w'))
 (Q:Hid (∀w,Calls prog 90 #[.bool s,.agg #[.int .u64 zhx,.int .u64 zl],.int .u64 D] w fun e w'=>(e= .returned (.tuple #[.agg #[.int .i64 n1,.int .i64 n2],.int .i64 n3])/\w.Grows w')))
 :Calls prog 151 (#[.agg #[.int .i64 an,.int .i64 ad],.agg #[.int .i64 bn,.int .i64 bd]]) w fun e w'=>(e= .returned (.tuple #[.agg #[.int .i64 n1,.int .i64 n2],.int .i64 n3])/\w.Grows w'):=by
 go_enter func151,ntmps151
 go_wp2_with (first|(go_at_call 60;(with_reducible refine(V1.out _).mono ?_);rintro e w' ⟨rfl,bs,dr,rfl⟩)|(go_at_call 60;(with_reducible refine(V2.out _).mono ?_);rintro e w' ⟨rfl,bs2,dr2,rfl⟩))
 generalize bs++bs2=B;apply aM 16 (14,6,.cells #[.int .u64 0,.int .u64 0] 158) (15,7,.cells #[.int .u64 0,.int .u64 0] 158) zf zf
 case hrx=>
  intro o ho ρ w;obtain rfl:=Option.some.inj ho;simp [go_sem]
 case hry=>
  intro o ho ρ w;obtain rfl:=Option.some.inj ho;simp [go_sem]
 case h1=>
  intro bs d;simp only [take_succ_cons,take_zero,map_cons,map_nil,Oper.mask];repeat(go_big_quiet_step ((first|(go_at_call 91;(with_reducible exact Calls.quietMS3 (Z.out _ zv _)))|(go_at_call 101;first|(with_reducible exact Calls.quietM3 (T1.out _))|(with_reducible exact Calls.quietM3 (T2.out _))))))
  exact wpQuiet_nil rfl
 all_goals
  intro gb1 gd1 gb2 gd2 gb gd;simp only [drop_succ_cons,drop_zero,Act.put,setIfInBounds_toArray,set_cons_zero,set_cons_succ,World.grow_grow,World.size_grow,World.size_alloc,Array.size_append]
 all_goals
  go_wp2_with (first|(go_at_call 102;(with_reducible refine(L.out _).mono ?_);rintro e w' ⟨rfl,bs3,dr3,rfl⟩))
  refine TS.begin [10,11] (World.Grows _) zf zf aJ (fun hS=>?_);refine TS.wkB 0 hS ?_;refine TS.wkB 1 hS ?_;refine TS.wkB 2 hS ?_;refine TS.wkB 3 hS ?_;refine TS.wkB 4 hS ?_;refine TS.wkB 6 hS ?_;refine TS.one (i:=5) zf rfl (fun K1 hK1=>?_)
  go_simp
  go_at_call 191
  refine(O.out _).mono ?_;rintro e' wA ⟨rfl,bA,dA,rfl⟩;refine TS.go hK1 zA (fun hS=>?_);clear hK1 K1
  (try simp only [nS])
  refine TS.one (i:=7) zf rfl (fun K1 hK1=>?_)
  go_simp
  go_at_call 90
  refine(Q.out _).mono ?_;rintro e' wA ⟨rfl,bA,dA,rfl⟩;refine TS.go hK1 zA (fun hS=>?_);clear hK1 K1
  (try simp only [nS])
  refine TS.wkB 8 hS ?_;refine TS.wkB 9 hS ?_;refine TS.wtB 10 ?_;refine TS.weB 11 ?_;clear hS
  go_wp2_with fail
  go_returns
  exact⟨rfl,.of_below af⟩
theorem Di(n d a b g p q n1 n2 n3:Int)(s t neg:Bool)(hneg:((s !=t)&&(n !=0))=neg)(w:World)(h1:decide (n<0)=s)(h2:decide (d<0)=t)(d0:(d==0)=false)(g1:1<=g)(g0:(g==0)=false)(e1:IntKind.u64.wrap (a.tdiv g)=p)(e2:IntKind.u64.wrap (b.tdiv g)=q)
 (Z1:Hid (∀w,Calls prog 95 #[.int .i64 n] w fun e w'=>e= .returned (.int .u64 a)/\w=w'))
 (Z2:Hid (∀w,Calls prog 95 #[.int .i64 d] w fun e w'=>e= .returned (.int .u64 b)/\w=w'))
 (G:Hid (∀w,Calls prog 94 #[.int .u64 a,.int .u64 b] w fun e w'=>e= .returned (.int .u64 g)/\w.Grows w'))
 (Q:Hid (∀w,Calls prog 99 #[.bool neg,.agg #[.int .u64 0,.int .u64 p],.agg #[.int .u64 0,.int .u64 q]] w fun e w'=>e= .returned (.tuple #[.agg #[.int .i64 n1,.int .i64 n2],.int .i64 n3])/\w.Grows w'))
 :Calls prog 59 #[.int .i64 n,.int .i64 d] w fun e w'=>e= .returned (.tuple #[.agg #[.int .i64 n1,.int .i64 n2],.int .i64 n3])/\w.Grows w':=by
 by_cases c:n=0
 ·subst c;cases s
  ·obtain rfl:neg=false:=by rw [<-hneg];cases t<;>rfl
   clear hneg;cases t
   focus
    go_enter func59,ntmps59
    go_wp2_with (first|(go_at_call 95;(with_reducible refine(Z1.out _).mono ?_);rintro e w' ⟨rfl,rfl⟩;clear Z1)|(go_at_call 95;(with_reducible refine(Z2.out _).mono ?_);rintro e w' ⟨rfl,rfl⟩;clear Z2)|(go_at_call 94;(with_reducible refine(G.out _).mono ?_);rintro e w' ⟨rfl,bs,dr,rfl⟩;clear G))
    have gz:¬g=0:=by omega
    refine TS.begin [20,21] (World.Grows _) zf zf aJ (fun hS=>?_);refine TS.wkB 0 hS ?_;refine TS.wkB 1 hS ?_;refine TS.wkB 2 hS ?_;refine TS.wkB 3 hS ?_;refine TS.wkB 4 hS ?_;refine TS.wkB 5 hS ?_;refine TS.take (i:=6) (v:=undef) rfl zf zf zf zo (fun _ _ _ h=>h) (.inl ⟨rfl,rfl⟩) hS ?_
    (try simp only [nS])
    refine TS.take (i:=7) (v:=undef) rfl zf zf zf zo (fun _ _ _ h=>h) (.inl ⟨rfl,rfl⟩) hS ?_
    (try simp only [nS])
   rotate_left
   focus
    go_enter func59,ntmps59
    go_wp2_with (first|(go_at_call 95;(with_reducible refine(Z1.out _).mono ?_);rintro e w' ⟨rfl,rfl⟩;clear Z1)|(go_at_call 95;(with_reducible refine(Z2.out _).mono ?_);rintro e w' ⟨rfl,rfl⟩;clear Z2)|(go_at_call 94;(with_reducible refine(G.out _).mono ?_);rintro e w' ⟨rfl,bs,dr,rfl⟩;clear G))
    have gz:¬g=0:=by omega
    refine TS.begin [20,21] (World.Grows _) zf zf aJ (fun hS=>?_);refine TS.wkB 0 hS ?_;refine TS.wkB 1 hS ?_;refine TS.wkB 2 hS ?_;refine TS.wkB 3 hS ?_;refine TS.wkB 4 hS ?_;refine TS.wkB 5 hS ?_;refine TS.wkB 6 hS ?_;refine TS.wkB 7 hS ?_
   rotate_left
   all_goals
    refine TS.wkB 8 hS ?_;refine TS.wkB 9 hS ?_;refine TS.wkB 10 hS ?_;refine TS.takeV (i:=11) (v:=.int .u64 (p)) rfl zf zf zf zo (fun _ _ _ h=>h) rfl hS ?_ ?_
    focus
     rintro wS ⟨gbS,gdS,rfl⟩
     go_simp
     (try exact e1)
    (try simp only [nS])
    refine TS.wkB 12 hS ?_;refine TS.wkB 13 hS ?_;refine TS.wkB 14 hS ?_;refine TS.takeV (i:=15) (v:=.int .u64 (q)) rfl zf zf zf zo (fun _ _ _ h=>h) rfl hS ?_ ?_
    focus
     rintro wS ⟨gbS,gdS,rfl⟩
     go_simp
     (try exact e2)
    (try simp only [nS])
    refine TS.wkB 16 hS ?_;refine TS.one (i:=17) zf rfl (fun K1 hK1=>?_)
    go_simp
    go_at_call 99
    refine(Q.out _).mono ?_;rintro e' wA ⟨rfl,bA,dA,rfl⟩;refine TS.go hK1 zA (fun hS=>?_);clear hK1 K1
    (try simp only [nS])
    refine TS.wkB 18 hS ?_;refine TS.wkB 19 hS ?_;refine TS.wtB 20 ?_;refine TS.weB 21 ?_;clear hS
    go_wp2_with fail
    go_returns
    exact⟨rfl,.of_below af⟩
  ·exact absurd h1 zo
 ·have c1:(n !=0)=true:=by simpa using c
  have c2:(n==0)=false:=by simpa using c
  rw [c1,Bool.and_true]at hneg;subst hneg;cases s<;>cases t
  focus
   go_enter func59,ntmps59
   go_wp2_with (first|(go_at_call 95;(with_reducible refine(Z1.out _).mono ?_);rintro e w' ⟨rfl,rfl⟩;clear Z1)|(go_at_call 95;(with_reducible refine(Z2.out _).mono ?_);rintro e w' ⟨rfl,rfl⟩;clear Z2)|(go_at_call 94;(with_reducible refine(G.out _).mono ?_);rintro e w' ⟨rfl,bs,dr,rfl⟩;clear G))
   have gz:¬g=0:=by omega
   refine TS.begin [20,21] (World.Grows _) zf zf aJ (fun hS=>?_);refine TS.wkB 0 hS ?_;refine TS.wkB 1 hS ?_;refine TS.wkB 2 hS ?_;refine TS.wkB 3 hS ?_;refine TS.wkB 4 hS ?_;refine TS.wkB 5 hS ?_;refine TS.take (i:=6) (v:=undef) rfl zf zf zf zo (fun _ _ _ h=>h) (.inl ⟨rfl,rfl⟩) hS ?_
   (try simp only [nS])
   refine TS.take (i:=7) (v:=undef) rfl zf zf zf zo (fun _ _ _ h=>h) (.inl ⟨rfl,rfl⟩) hS ?_
   (try simp only [nS])
  rotate_left
  focus
   go_enter func59,ntmps59
   go_wp2_with (first|(go_at_call 95;(with_reducible refine(Z1.out _).mono ?_);rintro e w' ⟨rfl,rfl⟩;clear Z1)|(go_at_call 95;(with_reducible refine(Z2.out _).mono ?_);rintro e w' ⟨rfl,rfl⟩;clear Z2)|(go_at_call 94;(with_reducible refine(G.out _).mono ?_);rintro e w' ⟨rfl,bs,dr,rfl⟩;clear G))
   have gz:¬g=0:=by omega
   refine TS.begin [20,21] (World.Grows _) zf zf aJ (fun hS=>?_);refine TS.wkB 0 hS ?_;refine TS.wkB 1 hS ?_;refine TS.wkB 2 hS ?_;refine TS.wkB 3 hS ?_;refine TS.wkB 4 hS ?_;refine TS.wkB 5 hS ?_;refine TS.wkB 6 hS ?_;refine TS.wkB 7 hS ?_
  rotate_left
  focus
   go_enter func59,ntmps59
   go_wp2_with (first|(go_at_call 95;(with_reducible refine(Z1.out _).mono ?_);rintro e w' ⟨rfl,rfl⟩;clear Z1)|(go_at_call 95;(with_reducible refine(Z2.out _).mono ?_);rintro e w' ⟨rfl,rfl⟩;clear Z2)|(go_at_call 94;(with_reducible refine(G.out _).mono ?_);rintro e w' ⟨rfl,bs,dr,rfl⟩;clear G))
   have gz:¬g=0:=by omega
   refine TS.begin [20,21] (World.Grows _) zf zf aJ (fun hS=>?_);refine TS.wkB 0 hS ?_;refine TS.wkB 1 hS ?_;refine TS.wkB 2 hS ?_;refine TS.wkB 3 hS ?_;refine TS.wkB 4 hS ?_;refine TS.wkB 5 hS ?_;refine TS.wkB 6 hS ?_;refine TS.wkB 7 hS ?_
  rotate_left
  focus
   go_enter func59,ntmps59
   go_wp2_with (first|(go_at_call 95;(with_reducible refine(Z1.out _).mono ?_);rintro e w' ⟨rfl,rfl⟩;clear Z1)|(go_at_call 95;(with_reducible refine(Z2.out _).mono ?_);rintro e w' ⟨rfl,rfl⟩;clear Z2)|(go_at_call 94;(with_reducible refine(G.out _).mono ?_);rintro e w' ⟨rfl,bs,dr,rfl⟩;clear G))
   have gz:¬g=0:=by omega
   refine TS.begin [20,21] (World.Grows _) zf zf aJ (fun hS=>?_);refine TS.wkB 0 hS ?_;refine TS.wkB 1 hS ?_;refine TS.wkB 2 hS ?_;refine TS.wkB 3 hS ?_;refine TS.wkB 4 hS ?_;refine TS.wkB 5 hS ?_;refine TS.take (i:=6) (v:=undef) rfl zf zf zf zo (fun _ _ _ h=>h) (.inl ⟨rfl,rfl⟩) hS ?_
   (try simp only [nS])
   refine TS.take (i:=7) (v:=undef) rfl zf zf zf zo (fun _ _ _ h=>h) (.inl ⟨rfl,rfl⟩) hS ?_
   (try simp only [nS])
  rotate_left
  all_goals
   refine TS.wkB 8 hS ?_;refine TS.wkB 9 hS ?_;refine TS.wkB 10 hS ?_;refine TS.takeV (i:=11) (v:=.int .u64 (p)) rfl zf zf zf zo (fun _ _ _ h=>h) rfl hS ?_ ?_
   focus
    rintro wS ⟨gbS,gdS,rfl⟩
    go_simp
    (try exact e1)
   (try simp only [nS])
   refine TS.wkB 12 hS ?_;refine TS.wkB 13 hS ?_;refine TS.wkB 14 hS ?_;refine TS.takeV (i:=15) (v:=.int .u64 (q)) rfl zf zf zf zo (fun _ _ _ h=>h) rfl hS ?_ ?_
   focus
    rintro wS ⟨gbS,gdS,rfl⟩
    go_simp
    (try exact e2)
   (try simp only [nS])
   refine TS.wkB 16 hS ?_;refine TS.one (i:=17) zf rfl (fun K1 hK1=>?_)
   go_simp
   go_at_call 99
   refine(Q.out _).mono ?_;rintro e' wA ⟨rfl,bA,dA,rfl⟩;refine TS.go hK1 zA (fun hS=>?_);clear hK1 K1
   (try simp only [nS])
   refine TS.wkB 18 hS ?_;refine TS.wkB 19 hS ?_;refine TS.wtB 20 ?_;refine TS.weB 21 ?_;clear hS
   go_wp2_with fail
   go_returns
   exact⟨rfl,.of_below af⟩
theorem Dh(n:Int)(w:World):Calls prog 59 #[.int .i64 n,.int .i64 0] w fun e w'=>e= .returned (frV (0,0,3))/\w.Grows w':=by
 go_enter func59,ntmps59
 exact nR
end Go.Proofs.YtlheailebbngiaaGreatDoor
