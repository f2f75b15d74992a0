import Derived.Test.YtcfpoofhokbhlaaGreatDoorVFrPd
import Derived.Test.YtcfpoofhokbhlaaGreatDoorVFrC1
set_option linter.all false
set_option maxHeartbeats 16000000
set_option maxRecDepth 1000000
namespace Go.Proofs.YtcfpoofhokbhlaaGreatDoor
open Tryz List
open Go.RowKit
theorem wE{b c:Bool}{n d m k:Nat}(h:n=0\/m=0\/b=c):nQ b n d m k=nQ c n d m k:=by
 rcases h with rfl|rfl|rfl
 ·have:il 0 k m d=0:=by simp [il]
  unfold nQ;rw [this];cases b<;>cases c<;>simp
 ·have:il n k 0 d=0:=by simp [il]
  unfold nQ;rw [this];cases b<;>cases c<;>simp
 ·rfl
def AX(s1 s2 s3 s4 neg:Bool):Prop:=(s1=true/\s2=true/\neg=true)\/(s1=true/\s2=false/\s3=false/\neg=false)\/(s1=false/\s3=true/\s4=true/\neg=true)\/(s1=false/\s3=true/\s4=false/\neg=false)\/(s1=false/\s3=false/\neg=false)
theorem F3(an bn:Int):∃neg,AX (decide (an<0)) (decide (0<bn)) (decide (0<an)) (decide (bn<0)) neg/\(an.natAbs=0\/bn.natAbs=0\/neg=(decide (an<0)!=decide (bn<0))):=by
 by_cases h1:an<0
 ·by_cases h2:0<bn
  ·exact⟨true,.inl (by simp [h1,h2]),by right;right;simp [h1];omega⟩
  ·refine⟨false,.inr (.inl (by simp [h1,h2];omega)), ?_⟩;by_cases h3:bn=0
   ·exact .inr (.inl ze)
   ·right;right;simp [h1];omega
 ·by_cases h2:0<an
  ·by_cases h3:bn<0
   ·exact⟨true,.inr (.inr (.inl (by simp [h1,h2,h3]))),by right;right;simp [h1,h3]⟩
   ·exact⟨false,.inr (.inr (.inr (.inl (by simp [h1,h2,h3])))),by right;right;simp [h1,h3]⟩
  ·exact⟨false,.inr (.inr (.inr (.inr (by simp [h1,h2])))),.inl ze⟩
theorem Ij(an ad bn bd n1 n2 n3:Int)(s1 s2 s3 s4 neg:Bool)(w:World)(h1:decide (an<0)=s1)(h2:decide (0<bn)=s2)(h3:decide (0<an)=s3)(h4:decide (bn<0)=s4)(hc:AX s1 s2 s3 s4 neg)
 (V1:Hid (∀w,Calls prog 61 #[.agg #[.int .i64 an,.int .i64 ad]] w fun e w'=>e= .returned (.bool true)/\w.Grows w')) (V2:Hid (∀w,Calls prog 61 #[.agg #[.int .i64 bn,.int .i64 bd]] w fun e w'=>e= .returned (.bool true)/\w.Grows w'))
 (Z:Hid (∀n,I64 n->∀w,Calls prog 80 #[.int .i64 n] w fun e w'=>e= .returned (.int .u64 (aG n))/\w=w')) (I1:I64 an) (I2:I64 ad) (I3:I64 bn) (I4:I64 bd)
 (Q:Hid (∀w,Calls prog 156 #[.bool neg,.int .u64 (aG an),.int .u64 (aG ad),.int .u64 (aG bn),.int .u64 (aG bd)] w fun e w'=>(e= .returned (.tuple #[.agg #[.int .i64 n1,.int .i64 n2],.int .i64 n3])/\w.Grows w')))
 :Calls prog 133 (#[.agg #[.int .i64 an,.int .i64 ad],.agg #[.int .i64 bn,.int .i64 bd]]) w fun e w'=>(e= .returned (.tuple #[.agg #[.int .i64 n1,.int .i64 n2],.int .i64 n3])/\w.Grows w'):=by
 rcases hc with ⟨rfl,rfl,rfl⟩|⟨rfl,rfl,rfl,rfl⟩|⟨rfl,rfl,rfl,rfl⟩|⟨rfl,rfl,rfl,rfl⟩|⟨rfl,rfl,rfl⟩
 all_goals
  go_enter func133,ntmps133
  go_wp2_with (first|(go_at_call 61;(with_reducible refine gvq (V1.out _) ?_);intro bs dr)|(go_at_call 61;(with_reducible refine gvq (V2.out _) ?_);intro bs2 dr2))
  refine TS.begin [16,17] (World.Grows _) zf zf aI (fun hS=>?_);refine kq 0 hS ?_;refine kq 1 hS ?_;refine kq 2 hS ?_;refine TS.takeC (i:=3) (v:=(.int .u64 (aG an))) (fn:=80) (args:=#[.int .i64 an]) rfl zf zf zf zo (fun _ _ _ h=>h) rfl hS ?_ ?_ ?_
  focus
   rintro wS ⟨gbS,gdS,rfl⟩
   go_simp
  focus exact fun wS _=>(Z.out _ zv wS)
  (try simp only [nS])
  refine kq 4 hS ?_;refine kq 5 hS ?_;refine TS.takeC (i:=6) (v:=(.int .u64 (aG ad))) (fn:=80) (args:=#[.int .i64 ad]) rfl zf zf zf zo (fun _ _ _ h=>h) rfl hS ?_ ?_ ?_
  focus
   rintro wS ⟨gbS,gdS,rfl⟩
   go_simp
  focus exact fun wS _=>(Z.out _ zv wS)
  (try simp only [nS])
  refine kq 7 hS ?_;refine kq 8 hS ?_;refine TS.takeC (i:=9) (v:=(.int .u64 (aG bn))) (fn:=80) (args:=#[.int .i64 bn]) rfl zf zf zf zo (fun _ _ _ h=>h) rfl hS ?_ ?_ ?_
  focus
   rintro wS ⟨gbS,gdS,rfl⟩
   go_simp
  focus exact fun wS _=>(Z.out _ zv wS)
  (try simp only [nS])
  refine kq 10 hS ?_;refine kq 11 hS ?_;refine TS.takeC (i:=12) (v:=(.int .u64 (aG bd))) (fn:=80) (args:=#[.int .i64 bd]) rfl zf zf zf zo (fun _ _ _ h=>h) rfl hS ?_ ?_ ?_
  focus
   rintro wS ⟨gbS,gdS,rfl⟩
   go_simp
  focus exact fun wS _=>(Z.out _ zv wS)
  (try simp only [nS])
  refine TS.one (i:=13) zf rfl (fun K1 hK1=>?_)
  go_simp
  go_at_call 156
  refine gvq (Q.out _) ?_;intro bA dA;refine TS.go hK1 zA (fun hS=>?_);clear hK1 K1
  (try simp only [nS])
  refine kq 14 hS ?_;refine kq 15 hS ?_;refine TS.wtB 16 ?_;refine TS.weB 17 ?_;clear hS
  go_wp2_with fail
  go_returns
  exact⟨rfl,.of_below af⟩
theorem Jh(an ad bn bd n1 n2 n3:Int)(s1 s2 s3 s4 neg:Bool)(w:World)(h1:decide (an<0)=s1)(h2:decide (0<bn)=s2)(h3:decide (0<an)=s3)(h4:decide (bn<0)=s4)(hc:AX s1 s2 s3 s4 neg)(h5:(bn==0)=false)
 (V1:Hid (∀w,Calls prog 61 #[.agg #[.int .i64 an,.int .i64 ad]] w fun e w'=>e= .returned (.bool true)/\w.Grows w')) (V2:Hid (∀w,Calls prog 61 #[.agg #[.int .i64 bn,.int .i64 bd]] w fun e w'=>e= .returned (.bool true)/\w.Grows w'))
 (Z:Hid (∀n,I64 n->∀w,Calls prog 80 #[.int .i64 n] w fun e w'=>e= .returned (.int .u64 (aG n))/\w=w')) (I1:I64 an) (I2:I64 ad) (I3:I64 bn) (I4:I64 bd)
 (Q:Hid (∀w,Calls prog 156 #[.bool neg,.int .u64 (aG an),.int .u64 (aG ad),.int .u64 (aG bd),.int .u64 (aG bn)] w fun e w'=>(e= .returned (.tuple #[.agg #[.int .i64 n1,.int .i64 n2],.int .i64 n3])/\w.Grows w')))
 :Calls prog 134 (#[.agg #[.int .i64 an,.int .i64 ad],.agg #[.int .i64 bn,.int .i64 bd]]) w fun e w'=>(e= .returned (.tuple #[.agg #[.int .i64 n1,.int .i64 n2],.int .i64 n3])/\w.Grows w'):=by
 rcases hc with ⟨rfl,rfl,rfl⟩|⟨rfl,rfl,rfl,rfl⟩|⟨rfl,rfl,rfl,rfl⟩|⟨rfl,rfl,rfl,rfl⟩|⟨rfl,rfl,rfl⟩
 all_goals
  go_enter func134,ntmps134
  go_wp2_with (first|(go_at_call 61;(with_reducible refine gvq (V1.out _) ?_);intro bs dr)|(go_at_call 61;(with_reducible refine gvq (V2.out _) ?_);intro bs2 dr2))
  refine TS.begin [16,17] (World.Grows _) zf zf aI (fun hS=>?_);refine kq 0 hS ?_;refine kq 1 hS ?_;refine kq 2 hS ?_;refine TS.takeC (i:=3) (v:=(.int .u64 (aG an))) (fn:=80) (args:=#[.int .i64 an]) rfl zf zf zf zo (fun _ _ _ h=>h) rfl hS ?_ ?_ ?_
  focus
   rintro wS ⟨gbS,gdS,rfl⟩
   go_simp
  focus exact fun wS _=>(Z.out _ zv wS)
  (try simp only [nS])
  refine kq 4 hS ?_;refine kq 5 hS ?_;refine TS.takeC (i:=6) (v:=(.int .u64 (aG ad))) (fn:=80) (args:=#[.int .i64 ad]) rfl zf zf zf zo (fun _ _ _ h=>h) rfl hS ?_ ?_ ?_
  focus
   rintro wS ⟨gbS,gdS,rfl⟩
   go_simp
  focus exact fun wS _=>(Z.out _ zv wS)
  (try simp only [nS])
  refine kq 7 hS ?_;refine kq 8 hS ?_;refine TS.takeC (i:=9) (v:=(.int .u64 (aG bd))) (fn:=80) (args:=#[.int .i64 bd]) rfl zf zf zf zo (fun _ _ _ h=>h) rfl hS ?_ ?_ ?_
  focus
   rintro wS ⟨gbS,gdS,rfl⟩
   go_simp
  focus exact fun wS _=>(Z.out _ zv wS)
  (try simp only [nS])
  refine kq 10 hS ?_;refine kq 11 hS ?_;refine TS.takeC (i:=12) (v:=(.int .u64 (aG bn))) (fn:=80) (args:=#[.int .i64 bn]) rfl zf zf zf zo (fun _ _ _ h=>h) rfl hS ?_ ?_ ?_
  focus
   rintro wS ⟨gbS,gdS,rfl⟩
   go_simp
  focus exact fun wS _=>(Z.out _ zv wS)
  (try simp only [nS])
  refine TS.one (i:=13) zf rfl (fun K1 hK1=>?_)
  go_simp
  go_at_call 156
  refine gvq (Q.out _) ?_;intro bA dA;refine TS.go hK1 zA (fun hS=>?_);clear hK1 K1
  (try simp only [nS])
  refine kq 14 hS ?_;refine kq 15 hS ?_;refine TS.wtB 16 ?_;refine TS.weB 17 ?_;clear hS
  go_wp2_with fail
  go_returns
  exact⟨rfl,.of_below af⟩

theorem Ik(an ad bn bd n1 n2 n3:Int)(s t:Bool)(w:World)(h1:decide (an<0)=s)(h2:decide (bn<0)=t)(u1:IntKind.u64.wrap ad=ad)(u2:IntKind.u64.wrap bd=bd)
 (V1:Hid (∀w,Calls prog 53 #[.agg #[.int .i64 an,.int .i64 ad]] w fun e w'=>e= .returned (.bool true)/\w.Grows w')) (V2:Hid (∀w,Calls prog 53 #[.agg #[.int .i64 bn,.int .i64 bd]] w fun e w'=>e= .returned (.bool true)/\w.Grows w'))
 (Z:Hid (∀n,I64 n->∀w,Calls prog 23 #[.int .i64 n] w fun e w'=>e= .returned (.int .u64 (aG n))/\w=w')) (I1:I64 an) (I2:I64 ad) (I3:I64 bn) (I4:I64 bd)
 (Q:Hid (∀w,Calls prog 138 #[.bool (s !=t),.int .u64 (aG an),.int .u64 ad,.int .u64 (aG bn),.int .u64 bd] w fun e w'=>(e= .returned (.tuple #[.agg #[.int .i64 n1,.int .i64 n2],.int .i64 n3])/\w.Grows w')))
 :Calls prog 110 (#[.agg #[.int .i64 an,.int .i64 ad],.agg #[.int .i64 bn,.int .i64 bd]]) w fun e w'=>(e= .returned (.tuple #[.agg #[.int .i64 n1,.int .i64 n2],.int .i64 n3])/\w.Grows w'):=by
 go_enter func110,ntmps110
 go_wp2_with (first|(go_at_call 53;(with_reducible refine gvq (V1.out _) ?_);intro bs dr)|(go_at_call 53;(with_reducible refine gvq (V2.out _) ?_);intro bs2 dr2))
 refine TS.begin [22,23] (World.Grows _) zf zf aI (fun hS=>?_);refine kq 0 hS ?_;refine kq 1 hS ?_;refine kq 2 hS ?_;refine kq 3 hS ?_;refine kq 4 hS ?_;refine kq 5 hS ?_;refine kq 6 hS ?_;refine kq 7 hS ?_;refine kq 8 hS ?_;refine TS.takeC (i:=9) (v:=(.int .u64 (aG an))) (fn:=23) (args:=#[.int .i64 an]) rfl zf zf zf zo (fun _ _ _ h=>h) rfl hS ?_ ?_ ?_
 focus
  rintro wS ⟨gbS,gdS,rfl⟩
  go_simp
 focus exact fun wS _=>(Z.out _ zv wS)
 (try simp only [nS])
 refine kq 10 hS ?_;refine kq 11 hS ?_;refine kq 12 hS ?_;refine kq 13 hS ?_;refine kq 14 hS ?_;refine TS.takeC (i:=15) (v:=(.int .u64 (aG bn))) (fn:=23) (args:=#[.int .i64 bn]) rfl zf zf zf zo (fun _ _ _ h=>h) rfl hS ?_ ?_ ?_
 focus
  rintro wS ⟨gbS,gdS,rfl⟩
  go_simp
 focus exact fun wS _=>(Z.out _ zv wS)
 (try simp only [nS])
 refine kq 16 hS ?_;refine kq 17 hS ?_;refine kq 18 hS ?_;refine TS.one (i:=19) zf rfl (fun K1 hK1=>?_)
 go_simp
 go_at_call 138
 refine gvq (Q.out _) ?_;intro bA dA;refine TS.go hK1 zA (fun hS=>?_);clear hK1 K1
 (try simp only [nS])
 refine kq 20 hS ?_;refine kq 21 hS ?_;refine TS.wtB 22 ?_;refine TS.weB 23 ?_;clear hS
 go_wp2_with fail
 go_returns
 exact⟨rfl,.of_below af⟩
theorem Jj(an ad bn bd n1 n2 n3:Int)(s t:Bool)(w:World)(h1:decide (an<0)=s)(h2:decide (bn<0)=t)(u1:IntKind.u64.wrap ad=ad)(u2:IntKind.u64.wrap bd=bd)(h5:(bn==0)=false)
 (V1:Hid (∀w,Calls prog 53 #[.agg #[.int .i64 an,.int .i64 ad]] w fun e w'=>e= .returned (.bool true)/\w.Grows w')) (V2:Hid (∀w,Calls prog 53 #[.agg #[.int .i64 bn,.int .i64 bd]] w fun e w'=>e= .returned (.bool true)/\w.Grows w'))
 (Z:Hid (∀n,I64 n->∀w,Calls prog 23 #[.int .i64 n] w fun e w'=>e= .returned (.int .u64 (aG n))/\w=w')) (I1:I64 an) (I2:I64 ad) (I3:I64 bn) (I4:I64 bd)
 (Q:Hid (∀w,Calls prog 138 #[.bool (s !=t),.int .u64 (aG an),.int .u64 ad,.int .u64 bd,.int .u64 (aG bn)] w fun e w'=>(e= .returned (.tuple #[.agg #[.int .i64 n1,.int .i64 n2],.int .i64 n3])/\w.Grows w')))
 :Calls prog 111 (#[.agg #[.int .i64 an,.int .i64 ad],.agg #[.int .i64 bn,.int .i64 bd]]) w fun e w'=>(e= .returned (.tuple #[.agg #[.int .i64 n1,.int .i64 n2],.int .i64 n3])/\w.Grows w'):=by
 go_enter func111,ntmps111
 go_wp2_with (first|(go_at_call 53;(with_reducible refine gvq (V1.out _) ?_);intro bs dr)|(go_at_call 53;(with_reducible refine gvq (V2.out _) ?_);intro bs2 dr2))
 refine TS.begin [22,23] (World.Grows _) zf zf aI (fun hS=>?_);refine kq 0 hS ?_;refine kq 1 hS ?_;refine kq 2 hS ?_;refine kq 3 hS ?_;refine kq 4 hS ?_;refine kq 5 hS ?_;refine kq 6 hS ?_;refine kq 7 hS ?_;refine kq 8 hS ?_;refine TS.takeC (i:=9) (v:=(.int .u64 (aG an))) (fn:=23) (args:=#[.int .i64 an]) rfl zf zf zf zo (fun _ _ _ h=>h) rfl hS ?_ ?_ ?_
 focus
  rintro wS ⟨gbS,gdS,rfl⟩
  go_simp
 focus exact fun wS _=>(Z.out _ zv wS)
 (try simp only [nS])
 refine kq 10 hS ?_;refine kq 11 hS ?_;refine kq 12 hS ?_;refine kq 13 hS ?_;refine kq 14 hS ?_;refine kq 15 hS ?_;refine kq 16 hS ?_;refine kq 17 hS ?_;refine TS.takeC (i:=18) (v:=(.int .u64 (aG bn))) (fn:=23) (args:=#[.int .i64 bn]) rfl zf zf zf zo (fun _ _ _ h=>h) rfl hS ?_ ?_ ?_
 focus
  rintro wS ⟨gbS,gdS,rfl⟩
  go_simp
 focus exact fun wS _=>(Z.out _ zv wS)
 (try simp only [nS])
 refine TS.one (i:=19) zf rfl (fun K1 hK1=>?_)
 go_simp
 go_at_call 138
 refine gvq (Q.out _) ?_;intro bA dA;refine TS.go hK1 zA (fun hS=>?_);clear hK1 K1
 (try simp only [nS])
 refine kq 20 hS ?_;refine kq 21 hS ?_;refine TS.wtB 22 ?_;refine TS.weB 23 ?_;clear hS
 go_wp2_with fail
 go_returns
 exact⟨rfl,.of_below af⟩
theorem OG(an ad bn bd:Int)(p q:Bool)(w:World)(hpq:(p&&q)=false)
 (V1:Hid (∀w,Calls prog 53 #[.agg #[.int .i64 an,.int .i64 ad]] w fun e w'=>e= .returned (.bool p)/\w.Grows w')) (V2:Hid (∀w,Calls prog 53 #[.agg #[.int .i64 bn,.int .i64 bd]] w fun e w'=>e= .returned (.bool q)/\w.Grows w'))
 :Calls prog 110 (#[.agg #[.int .i64 an,.int .i64 ad],.agg #[.int .i64 bn,.int .i64 bd]]) w fun e w'=>e= .returned (frV (0,0,1))/\w.Grows w':=by
 cases p<;>cases q
 all_goals first
  |(exfalso;simp at hpq;done)
  |clear hpq
 all_goals
  go_enter func110,ntmps110
  go_wp2_with (first|(go_at_call 53;(with_reducible refine gvq (V1.out _) ?_);intro bs dr)|(go_at_call 53;(with_reducible refine gvq (V2.out _) ?_);intro bs2 dr2))
  go_returns
  exact⟨rfl,.of_below af⟩
theorem Px(an ad bn bd:Int)(p q:Bool)(w:World)(hpq:(p&&q)=false)
 (V1:Hid (∀w,Calls prog 53 #[.agg #[.int .i64 an,.int .i64 ad]] w fun e w'=>e= .returned (.bool p)/\w.Grows w')) (V2:Hid (∀w,Calls prog 53 #[.agg #[.int .i64 bn,.int .i64 bd]] w fun e w'=>e= .returned (.bool q)/\w.Grows w'))
 :Calls prog 111 (#[.agg #[.int .i64 an,.int .i64 ad],.agg #[.int .i64 bn,.int .i64 bd]]) w fun e w'=>e= .returned (frV (0,0,1))/\w.Grows w':=by
 cases p<;>cases q
 all_goals first
  |(exfalso;simp at hpq;done)
  |clear hpq
 all_goals
  go_enter func111,ntmps111
  go_wp2_with (first|(go_at_call 53;(with_reducible refine gvq (V1.out _) ?_);intro bs dr)|(go_at_call 53;(with_reducible refine gvq (V2.out _) ?_);intro bs2 dr2))
  go_returns
  exact⟨rfl,.of_below af⟩
theorem PS(an ad bn bd:Int)(p q:Bool)(w:World)(hpq:(p&&q)=false)
 (V1:Hid (∀w,Calls prog 53 #[.agg #[.int .i64 an,.int .i64 ad]] w fun e w'=>e= .returned (.bool p)/\w.Grows w')) (V2:Hid (∀w,Calls prog 53 #[.agg #[.int .i64 bn,.int .i64 bd]] w fun e w'=>e= .returned (.bool q)/\w.Grows w'))
 :Calls prog 108 (#[.agg #[.int .i64 an,.int .i64 ad],.agg #[.int .i64 bn,.int .i64 bd]]) w fun e w'=>e= .returned (frV (0,0,1))/\w.Grows w':=by
 cases p<;>cases q
 all_goals first
  |(exfalso;simp at hpq;done)
  |clear hpq
 all_goals
  go_enter func108,ntmps108
  go_wp2_with (first|(go_at_call 53;(with_reducible refine gvq (V1.out _) ?_);intro bs dr)|(go_at_call 53;(with_reducible refine gvq (V2.out _) ?_);intro bs2 dr2))
  go_returns
  exact⟨rfl,.of_below af⟩
theorem OE(an ad bn bd:Int)(p q:Bool)(w:World)(hpq:(p&&q)=false)
 (V1:Hid (∀w,Calls prog 61 #[.agg #[.int .i64 an,.int .i64 ad]] w fun e w'=>e= .returned (.bool p)/\w.Grows w')) (V2:Hid (∀w,Calls prog 61 #[.agg #[.int .i64 bn,.int .i64 bd]] w fun e w'=>e= .returned (.bool q)/\w.Grows w'))
 :Calls prog 133 (#[.agg #[.int .i64 an,.int .i64 ad],.agg #[.int .i64 bn,.int .i64 bd]]) w fun e w'=>e= .returned (frV (0,0,1))/\w.Grows w':=by
 cases p<;>cases q
 all_goals first
  |(exfalso;simp at hpq;done)
  |clear hpq
 all_goals
  go_enter func133,ntmps133
  go_wp2_with (first|(go_at_call 61;(with_reducible refine gvq (V1.out _) ?_);intro bs dr)|(go_at_call 61;(with_reducible refine gvq (V2.out _) ?_);intro bs2 dr2))
  go_returns
  exact⟨rfl,.of_below af⟩
theorem Pw(an ad bn bd:Int)(p q:Bool)(w:World)(hpq:(p&&q)=false)
 (V1:Hid (∀w,Calls prog 61 #[.agg #[.int .i64 an,.int .i64 ad]] w fun e w'=>e= .returned (.bool p)/\w.Grows w')) (V2:Hid (∀w,Calls prog 61 #[.agg #[.int .i64 bn,.int .i64 bd]] w fun e w'=>e= .returned (.bool q)/\w.Grows w'))
 :Calls prog 134 (#[.agg #[.int .i64 an,.int .i64 ad],.agg #[.int .i64 bn,.int .i64 bd]]) w fun e w'=>e= .returned (frV (0,0,1))/\w.Grows w':=by
 cases p<;>cases q
 all_goals first
  |(exfalso;simp at hpq;done)
  |clear hpq
 all_goals
  go_enter func134,ntmps134
  go_wp2_with (first|(go_at_call 61;(with_reducible refine gvq (V1.out _) ?_);intro bs dr)|(go_at_call 61;(with_reducible refine gvq (V2.out _) ?_);intro bs2 dr2))
  go_returns
  exact⟨rfl,.of_below af⟩
theorem PR(an ad bn bd:Int)(p q:Bool)(w:World)(hpq:(p&&q)=false)
 (V1:Hid (∀w,Calls prog 61 #[.agg #[.int .i64 an,.int .i64 ad]] w fun e w'=>e= .returned (.bool p)/\w.Grows w')) (V2:Hid (∀w,Calls prog 61 #[.agg #[.int .i64 bn,.int .i64 bd]] w fun e w'=>e= .returned (.bool q)/\w.Grows w'))
 :Calls prog 131 (#[.agg #[.int .i64 an,.int .i64 ad],.agg #[.int .i64 bn,.int .i64 bd]]) w fun e w'=>e= .returned (frV (0,0,1))/\w.Grows w':=by
 cases p<;>cases q
 all_goals first
  |(exfalso;simp at hpq;done)
  |clear hpq
 all_goals
  go_enter func131,ntmps131
  go_wp2_with (first|(go_at_call 61;(with_reducible refine gvq (V1.out _) ?_);intro bs dr)|(go_at_call 61;(with_reducible refine gvq (V2.out _) ?_);intro bs2 dr2))
  go_returns
  exact⟨rfl,.of_below af⟩
theorem Ji(an ad bd:Int)(w:World)
 (V1:Hid (∀w,Calls prog 53 #[.agg #[.int .i64 an,.int .i64 ad]] w fun e w'=>e= .returned (.bool true)/\w.Grows w')) (V2:Hid (∀w,Calls prog 53 #[.agg #[.int .i64 0,.int .i64 bd]] w fun e w'=>e= .returned (.bool true)/\w.Grows w'))
 :Calls prog 111 #[.agg #[.int .i64 an,.int .i64 ad],.agg #[.int .i64 0,.int .i64 bd]] w fun e w'=>e= .returned (frV (0,0,3))/\w.Grows w':=by
 go_enter func111,ntmps111
 go_wp2_with (first|(go_at_call 53;(with_reducible refine gvq (V1.out _) ?_);intro bs dr)|(go_at_call 53;(with_reducible refine gvq (V2.out _) ?_);intro bs2 dr2))
 go_returns
 exact⟨rfl,.of_below af⟩
theorem Jg(an ad bd:Int)(w:World)
 (V1:Hid (∀w,Calls prog 61 #[.agg #[.int .i64 an,.int .i64 ad]] w fun e w'=>e= .returned (.bool true)/\w.Grows w')) (V2:Hid (∀w,Calls prog 61 #[.agg #[.int .i64 0,.int .i64 bd]] w fun e w'=>e= .returned (.bool true)/\w.Grows w'))
 :Calls prog 134 #[.agg #[.int .i64 an,.int .i64 ad],.agg #[.int .i64 0,.int .i64 bd]] w fun e w'=>e= .returned (frV (0,0,3))/\w.Grows w':=by
 go_enter func134,ntmps134
 go_wp2_with (first|(go_at_call 61;(with_reducible refine gvq (V1.out _) ?_);intro bs dr)|(go_at_call 61;(with_reducible refine gvq (V2.out _) ?_);intro bs2 dr2))
 go_returns
 exact⟨rfl,.of_below af⟩

theorem JS(an ad bn bd xh xl yh yl zh zl D n1 n2 n3:Int)(s:Bool)(w:World)(h1:decide (an<0)=s)(h2:decide (bn<0)=s)
 (V1:Hid (∀w,Calls prog 53 #[.agg #[.int .i64 an,.int .i64 ad]] w fun e w'=>e= .returned (.bool true)/\w.Grows w')) (V2:Hid (∀w,Calls prog 53 #[.agg #[.int .i64 bn,.int .i64 bd]] w fun e w'=>e= .returned (.bool true)/\w.Grows w'))
 (Z:Hid (∀n,I64 n->∀w,Calls prog 23 #[.int .i64 n] w fun e w'=>e= .returned (.int .u64 (aG n))/\w=w')) (I1:I64 an) (I2:I64 ad) (I3:I64 bn) (I4:I64 bd)
 (T1:Hid (∀w,Calls prog 70 #[.int .u64 (aG an),.int .u64 bd] w fun e w'=>e= .returned (.agg #[.int .u64 xh,.int .u64 xl])/\w.Grows w')) (T2:Hid (∀w,Calls prog 70 #[.int .u64 (aG bn),.int .u64 ad] w fun e w'=>e= .returned (.agg #[.int .u64 yh,.int .u64 yl])/\w.Grows w')) (u1:IntKind.u64.wrap ad=ad) (u2:IntKind.u64.wrap bd=bd) (u3:IntKind.u64.wrap (ad*bd)=D)
 (O:Hid (∀w,Calls prog 136 #[.agg #[.int .u64 xh,.int .u64 xl],.agg #[.int .u64 yh,.int .u64 yl]] w fun e w'=>e= .returned (.agg #[.int .u64 zh,.int .u64 zl])/\w.Grows w'))
 (Q:Hid (∀w,Calls prog 22 #[.bool s,.agg #[.int .u64 zh,.int .u64 zl],.int .u64 D] w fun e w'=>(e= .returned (.tuple #[.agg #[.int .i64 n1,.int .i64 n2],.int .i64 n3])/\w.Grows w')))
 :Calls prog 108 (#[.agg #[.int .i64 an,.int .i64 ad],.agg #[.int .i64 bn,.int .i64 bd]]) w fun e w'=>(e= .returned (.tuple #[.agg #[.int .i64 n1,.int .i64 n2],.int .i64 n3])/\w.Grows w'):=by
 have L:Hid True:=yq trivial
 go_enter func108,ntmps108
 go_wp2_with (first|(go_at_call 53;(with_reducible refine gvq (V1.out _) ?_);intro bs dr)|(go_at_call 53;(with_reducible refine gvq (V2.out _) ?_);intro bs2 dr2))
 generalize bs++bs2=B;apply aK 16 (14,6,.cells #[.int .u64 0,.int .u64 0] 91) (15,7,.cells #[.int .u64 0,.int .u64 0] 91) zf zf
 case hrx=>
  intro o ho ρ w;obtain rfl:=Option.some.inj ho;simp [go_sem]
 case hry=>
  intro o ho ρ w;obtain rfl:=Option.some.inj ho;simp [go_sem]
 case h1=>
  intro bs d;simp only [take_succ_cons,take_zero,map_cons,map_nil,Oper.mask];repeat(go_big_quiet_step ((first|(go_at_call 23;(with_reducible exact Calls.quietMS3 (Z.out _ zv _)))|(go_at_call 70;first|(with_reducible exact Calls.quietM3 (T1.out _))|(with_reducible exact Calls.quietM3 (T2.out _))))))
  exact wpQuiet_nil rfl
 all_goals
  intro gb1 gd1 gb2 gd2 gb gd;simp only [drop_succ_cons,drop_zero,Act.put,setIfInBounds_toArray,set_cons_zero,set_cons_succ,World.grow_grow,World.size_grow,World.size_alloc,Array.size_append]
 all_goals
  go_wp2_with (first|(go_at_call 71;(with_reducible refine gvq (L.out _) ?_);intro bs3 dr3))
  refine TS.begin [10,11] (World.Grows _) zf zf aI (fun hS=>?_);refine kq 0 hS ?_;refine kq 1 hS ?_;refine kq 2 hS ?_;refine kq 3 hS ?_;refine kq 4 hS ?_;refine kq 6 hS ?_;refine TS.one (i:=5) zf rfl (fun K1 hK1=>?_)
  go_simp
  go_at_call 136
  refine gvq (O.out _) ?_;intro bA dA;refine TS.go hK1 zA (fun hS=>?_);clear hK1 K1
  (try simp only [nS])
  refine TS.one (i:=7) zf rfl (fun K1 hK1=>?_)
  go_simp
  go_at_call 22
  refine gvq (Q.out _) ?_;intro bA dA;refine TS.go hK1 zA (fun hS=>?_);clear hK1 K1
  (try simp only [nS])
  refine kq 8 hS ?_;refine kq 9 hS ?_;refine TS.wtB 10 ?_;refine TS.weB 11 ?_;clear hS
  go_wp2_with fail
  go_returns
  exact⟨rfl,.of_below af⟩
theorem JV(an ad bn bd xh xl yh yl zh zl D n1 n2 n3:Int)(s t:Bool)(w:World)(h1:decide (an<0)=s)(h2:decide (bn<0)=t)(h3:(s==t)=false)
 (V1:Hid (∀w,Calls prog 53 #[.agg #[.int .i64 an,.int .i64 ad]] w fun e w'=>e= .returned (.bool true)/\w.Grows w')) (V2:Hid (∀w,Calls prog 53 #[.agg #[.int .i64 bn,.int .i64 bd]] w fun e w'=>e= .returned (.bool true)/\w.Grows w'))
 (Z:Hid (∀n,I64 n->∀w,Calls prog 23 #[.int .i64 n] w fun e w'=>e= .returned (.int .u64 (aG n))/\w=w')) (I1:I64 an) (I2:I64 ad) (I3:I64 bn) (I4:I64 bd)
 (T1:Hid (∀w,Calls prog 70 #[.int .u64 (aG an),.int .u64 bd] w fun e w'=>e= .returned (.agg #[.int .u64 xh,.int .u64 xl])/\w.Grows w')) (T2:Hid (∀w,Calls prog 70 #[.int .u64 (aG bn),.int .u64 ad] w fun e w'=>e= .returned (.agg #[.int .u64 yh,.int .u64 yl])/\w.Grows w')) (u1:IntKind.u64.wrap ad=ad) (u2:IntKind.u64.wrap bd=bd) (u3:IntKind.u64.wrap (ad*bd)=D)
 (L:Hid (∀w,Calls prog 71 #[.agg #[.int .u64 xh,.int .u64 xl],.agg #[.int .u64 yh,.int .u64 yl]] w fun e w'=>e= .returned (.bool true)/\w.Grows w'))
 (O:Hid (∀w,Calls prog 137 #[.agg #[.int .u64 yh,.int .u64 yl],.agg #[.int .u64 xh,.int .u64 xl]] w fun e w'=>e= .returned (.agg #[.int .u64 zh,.int .u64 zl])/\w.Grows w'))
 (Q:Hid (∀w,Calls prog 22 #[.bool t,.agg #[.int .u64 zh,.int .u64 zl],.int .u64 D] w fun e w'=>(e= .returned (.tuple #[.agg #[.int .i64 n1,.int .i64 n2],.int .i64 n3])/\w.Grows w')))
 :Calls prog 108 (#[.agg #[.int .i64 an,.int .i64 ad],.agg #[.int .i64 bn,.int .i64 bd]]) w fun e w'=>(e= .returned (.tuple #[.agg #[.int .i64 n1,.int .i64 n2],.int .i64 n3])/\w.Grows w'):=by
 go_enter func108,ntmps108
 go_wp2_with (first|(go_at_call 53;(with_reducible refine gvq (V1.out _) ?_);intro bs dr)|(go_at_call 53;(with_reducible refine gvq (V2.out _) ?_);intro bs2 dr2))
 generalize bs++bs2=B;apply aK 16 (14,6,.cells #[.int .u64 0,.int .u64 0] 91) (15,7,.cells #[.int .u64 0,.int .u64 0] 91) zf zf
 case hrx=>
  intro o ho ρ w;obtain rfl:=Option.some.inj ho;simp [go_sem]
 case hry=>
  intro o ho ρ w;obtain rfl:=Option.some.inj ho;simp [go_sem]
 case h1=>
  intro bs d;simp only [take_succ_cons,take_zero,map_cons,map_nil,Oper.mask];repeat(go_big_quiet_step ((first|(go_at_call 23;(with_reducible exact Calls.quietMS3 (Z.out _ zv _)))|(go_at_call 70;first|(with_reducible exact Calls.quietM3 (T1.out _))|(with_reducible exact Calls.quietM3 (T2.out _))))))
  exact wpQuiet_nil rfl
 all_goals
  intro gb1 gd1 gb2 gd2 gb gd;simp only [drop_succ_cons,drop_zero,Act.put,setIfInBounds_toArray,set_cons_zero,set_cons_succ,World.grow_grow,World.size_grow,World.size_alloc,Array.size_append]
 all_goals
  go_wp2_with (first|(go_at_call 71;(with_reducible refine gvq (L.out _) ?_);intro bs3 dr3))
  refine TS.begin [10,11] (World.Grows _) zf zf aI (fun hS=>?_);refine kq 0 hS ?_;refine kq 1 hS ?_;refine kq 2 hS ?_;refine kq 3 hS ?_;refine kq 4 hS ?_;refine kq 6 hS ?_;refine TS.one (i:=5) zf rfl (fun K1 hK1=>?_)
  go_simp
  go_at_call 137
  refine gvq (O.out _) ?_;intro bA dA;refine TS.go hK1 zA (fun hS=>?_);clear hK1 K1
  (try simp only [nS])
  refine TS.one (i:=7) zf rfl (fun K1 hK1=>?_)
  go_simp
  go_at_call 22
  refine gvq (Q.out _) ?_;intro bA dA;refine TS.go hK1 zA (fun hS=>?_);clear hK1 K1
  (try simp only [nS])
  refine kq 8 hS ?_;refine kq 9 hS ?_;refine TS.wtB 10 ?_;refine TS.weB 11 ?_;clear hS
  go_wp2_with fail
  go_returns
  exact⟨rfl,.of_below af⟩
theorem JU(an ad bn bd xh xl yh yl zh zl D n1 n2 n3:Int)(s t:Bool)(w:World)(h1:decide (an<0)=s)(h2:decide (bn<0)=t)(h3:(s==t)=false)
 (V1:Hid (∀w,Calls prog 53 #[.agg #[.int .i64 an,.int .i64 ad]] w fun e w'=>e= .returned (.bool true)/\w.Grows w')) (V2:Hid (∀w,Calls prog 53 #[.agg #[.int .i64 bn,.int .i64 bd]] w fun e w'=>e= .returned (.bool true)/\w.Grows w'))
 (Z:Hid (∀n,I64 n->∀w,Calls prog 23 #[.int .i64 n] w fun e w'=>e= .returned (.int .u64 (aG n))/\w=w')) (I1:I64 an) (I2:I64 ad) (I3:I64 bn) (I4:I64 bd)
 (T1:Hid (∀w,Calls prog 70 #[.int .u64 (aG an),.int .u64 bd] w fun e w'=>e= .returned (.agg #[.int .u64 xh,.int .u64 xl])/\w.Grows w')) (T2:Hid (∀w,Calls prog 70 #[.int .u64 (aG bn),.int .u64 ad] w fun e w'=>e= .returned (.agg #[.int .u64 yh,.int .u64 yl])/\w.Grows w')) (u1:IntKind.u64.wrap ad=ad) (u2:IntKind.u64.wrap bd=bd) (u3:IntKind.u64.wrap (ad*bd)=D)
 (L:Hid (∀w,Calls prog 71 #[.agg #[.int .u64 xh,.int .u64 xl],.agg #[.int .u64 yh,.int .u64 yl]] w fun e w'=>e= .returned (.bool false)/\w.Grows w'))
 (O:Hid (∀w,Calls prog 137 #[.agg #[.int .u64 xh,.int .u64 xl],.agg #[.int .u64 yh,.int .u64 yl]] w fun e w'=>e= .returned (.agg #[.int .u64 zh,.int .u64 zl])/\w.Grows w'))
 (Q:Hid (∀w,Calls prog 22 #[.bool s,.agg #[.int .u64 zh,.int .u64 zl],.int .u64 D] w fun e w'=>(e= .returned (.tuple #[.agg #[.int .i64 n1,.int .i64 n2],.int .i64 n3])/\w.Grows w')))
 :Calls prog 108 (#[.agg #[.int .i64 an,.int .i64 ad],.agg #[.int .i64 bn,.int .i64 bd]]) w fun e w'=>(e= .returned (.tuple #[.agg #[.int .i64 n1,.int .i64 n2],.int .i64 n3])/\w.Grows w'):=by
 go_enter func108,ntmps108
 go_wp2_with (first|(go_at_call 53;(with_reducible refine gvq (V1.out _) ?_);intro bs dr)|(go_at_call 53;(with_reducible refine gvq (V2.out _) ?_);intro bs2 dr2))
 generalize bs++bs2=B;apply aK 16 (14,6,.cells #[.int .u64 0,.int .u64 0] 91) (15,7,.cells #[.int .u64 0,.int .u64 0] 91) zf zf
 case hrx=>
  intro o ho ρ w;obtain rfl:=Option.some.inj ho;simp [go_sem]
 case hry=>
  intro o ho ρ w;obtain rfl:=Option.some.inj ho;simp [go_sem]
 case h1=>
  intro bs d;simp only [take_succ_cons,take_zero,map_cons,map_nil,Oper.mask];repeat(go_big_quiet_step ((first|(go_at_call 23;(with_reducible exact Calls.quietMS3 (Z.out _ zv _)))|(go_at_call 70;first|(with_reducible exact Calls.quietM3 (T1.out _))|(with_reducible exact Calls.quietM3 (T2.out _))))))
  exact wpQuiet_nil rfl
 all_goals
  intro gb1 gd1 gb2 gd2 gb gd;simp only [drop_succ_cons,drop_zero,Act.put,setIfInBounds_toArray,set_cons_zero,set_cons_succ,World.grow_grow,World.size_grow,World.size_alloc,Array.size_append]
 all_goals
  go_wp2_with (first|(go_at_call 71;(with_reducible refine gvq (L.out _) ?_);intro bs3 dr3))
  refine TS.begin [10,11] (World.Grows _) zf zf aI (fun hS=>?_);refine kq 0 hS ?_;refine kq 1 hS ?_;refine kq 2 hS ?_;refine kq 3 hS ?_;refine kq 4 hS ?_;refine kq 6 hS ?_;refine TS.one (i:=5) zf rfl (fun K1 hK1=>?_)
  go_simp
  go_at_call 137
  refine gvq (O.out _) ?_;intro bA dA;refine TS.go hK1 zA (fun hS=>?_);clear hK1 K1
  (try simp only [nS])
  refine TS.one (i:=7) zf rfl (fun K1 hK1=>?_)
  go_simp
  go_at_call 22
  refine gvq (Q.out _) ?_;intro bA dA;refine TS.go hK1 zA (fun hS=>?_);clear hK1 K1
  (try simp only [nS])
  refine kq 8 hS ?_;refine kq 9 hS ?_;refine TS.wtB 10 ?_;refine TS.weB 11 ?_;clear hS
  go_wp2_with fail
  go_returns
  exact⟨rfl,.of_below af⟩


theorem JP(an ad bn bd xh xl yh yl zh zl D r g q oh ol n1 n2 n3:Int)(s t:Bool)(w:World)(h1:decide (an<0)=s)(h2:decide (bn<0)=t)(h3:(s==t)=true)
 (V1:Hid (∀w,Calls prog 61 #[.agg #[.int .i64 an,.int .i64 ad]] w fun e w'=>e= .returned (.bool true)/\w.Grows w')) (V2:Hid (∀w,Calls prog 61 #[.agg #[.int .i64 bn,.int .i64 bd]] w fun e w'=>e= .returned (.bool true)/\w.Grows w'))
 (Z:Hid (∀n,I64 n->∀w,Calls prog 80 #[.int .i64 n] w fun e w'=>e= .returned (.int .u64 (aG n))/\w=w')) (I1:I64 an) (I2:I64 ad) (I3:I64 bn) (I4:I64 bd)
 (T1:Hid (∀w,Calls prog 150 #[.int .u64 (aG an),.int .u64 (aG bd)] w fun e w'=>e= .returned (.agg #[.int .u64 xh,.int .u64 xl])/\w.Grows w')) (T2:Hid (∀w,Calls prog 150 #[.int .u64 (aG bn),.int .u64 (aG ad)] w fun e w'=>e= .returned (.agg #[.int .u64 yh,.int .u64 yl])/\w.Grows w')) (u3:IntKind.u64.wrap (aG ad*aG bd)=D) (g1:1<=g) (g0:(g==0)=false) (eq:IntKind.u64.wrap (D.tdiv g)=q)

 (O:Hid (∀w,Calls prog 152 #[.agg #[.int .u64 xh,.int .u64 xl],.agg #[.int .u64 yh,.int .u64 yl]] w fun e w'=>e= .returned (.agg #[.int .u64 zh,.int .u64 zl])/\w.Grows w'))
 (hz:zh=0->zl=0->n1=0/\n2=1/\n3=0)
 (hq:zh≠0\/zl≠0->Hid (∀w,Calls prog 149 #[.bool s,.agg #[.int .u64 oh,.int .u64 ol],.agg #[.int .u64 0,.int .u64 q]] w fun e w'=>(e= .returned (.tuple #[.agg #[.int .i64 n1,.int .i64 n2],.int .i64 n3])/\w.Grows w'))/\
  Hid (∀w,Calls prog 155 #[.agg #[.int .u64 zh,.int .u64 zl],.int .u64 g] w fun e w'=>e= .returned (.agg #[.int .u64 oh,.int .u64 ol])/\w.Grows w')/\
  Hid (∀w,Calls prog 154 #[.int .u64 zh,.int .u64 zl,.int .u64 D] w fun e w'=>e= .returned (.int .u64 r)/\w.Grows w')/\
  Hid (∀w,Calls prog 79 #[.int .u64 D,.int .u64 r] w fun e w'=>e= .returned (.int .u64 g)/\w.Grows w'))
 :Calls prog 131 (#[.agg #[.int .i64 an,.int .i64 ad],.agg #[.int .i64 bn,.int .i64 bd]]) w fun e w'=>(e= .returned (.tuple #[.agg #[.int .i64 n1,.int .i64 n2],.int .i64 n3])/\w.Grows w'):=by
 have L:Hid True:=yq trivial;by_cases z1:zh=0
 ·subst z1;by_cases z2:zl=0
  ·subst z2;have R:Hid True:=yq trivial;have G:Hid True:=yq trivial;have E:=yq (hz rfl rfl);clear hz
   go_enter func131,ntmps131
   go_wp2_with (first|(go_at_call 61;(with_reducible refine gvq (V1.out _) ?_);intro bs dr)|(go_at_call 61;(with_reducible refine gvq (V2.out _) ?_);intro bs2 dr2))
   generalize bs++bs2=B;apply aK 16 (14,6,.cells #[.int .u64 0,.int .u64 0] 198) (15,7,.cells #[.int .u64 0,.int .u64 0] 198) zf zf
   case hrx=>
    intro o ho ρ w;obtain rfl:=Option.some.inj ho;simp [go_sem]
   case hry=>
    intro o ho ρ w;obtain rfl:=Option.some.inj ho;simp [go_sem]
   case h1=>
    intro bs d;simp only [take_succ_cons,take_zero,map_cons,map_nil,Oper.mask];repeat(go_big_quiet_step ((first|(go_at_call 80;(with_reducible exact Calls.quietMS3 (Z.out _ zv _)))|(go_at_call 150;first|(with_reducible exact Calls.quietM3 (T1.out _))|(with_reducible exact Calls.quietM3 (T2.out _))))))
    exact wpQuiet_nil rfl
   all_goals
    intro gb1 gd1 gb2 gd2 gb gd;simp only [drop_succ_cons,drop_zero,Act.put,setIfInBounds_toArray,set_cons_zero,set_cons_succ,World.grow_grow,World.size_grow,World.size_alloc,Array.size_append]
   all_goals
    clear T1 T2
    go_wp2_with (first|(go_at_call 151;(with_reducible refine gvq (L.out _) ?_);intro bs3 dr3)|(go_at_call 152;(with_reducible refine gvq (O.out _) ?_);intro bs4 dr4))
    clear O L;refine TS.begin [7] (World.Grows _) zf zf aI (fun hS=>?_);refine kq 0 hS ?_;refine kq 1 hS ?_;refine TS.takeC (i:=2) (v:=(.int .u64 (aG ad))) (fn:=80) (args:=#[.int .i64 ad]) rfl zf zf zf zo (fun _ _ _ h=>h) rfl hS ?_ ?_ ?_
    focus
     rintro wS ⟨gbS,gdS,rfl⟩
     go_simp
    focus exact fun wS _=>(Z.out _ zv wS)
    (try simp only [nS])
    refine kq 3 hS ?_;refine kq 4 hS ?_;refine TS.takeC (i:=5) (v:=(.int .u64 (aG bd))) (fn:=80) (args:=#[.int .i64 bd]) rfl zf zf zf zo (fun _ _ _ h=>h) rfl hS ?_ ?_ ?_
    focus
     rintro wS ⟨gbS,gdS,rfl⟩
     go_simp
    focus exact fun wS _=>(Z.out _ zv wS)
    (try simp only [nS])
    refine kq 6 hS ?_;refine TS.weB 7 ?_;clear hS
    go_wp2_with (first|(go_at_call 154;(with_reducible refine gvq (R.out _) ?_);intro bs5 dr5)|(go_at_call 79;(with_reducible refine gvq (G.out _) ?_);intro bs6 dr6))
   all_goals
    go_returns
    exact⟨by rw [E.out.1,E.out.2.1,E.out.2.2],.of_below af⟩
  ·have z3:(zl==0)=false:=by simpa using z2
   obtain⟨Q,U,R,G⟩:=hq (.inr z2);clear hz hq
   go_enter func131,ntmps131
   go_wp2_with (first|(go_at_call 61;(with_reducible refine gvq (V1.out _) ?_);intro bs dr)|(go_at_call 61;(with_reducible refine gvq (V2.out _) ?_);intro bs2 dr2))
   generalize bs++bs2=B;apply aK 16 (14,6,.cells #[.int .u64 0,.int .u64 0] 198) (15,7,.cells #[.int .u64 0,.int .u64 0] 198) zf zf
   case hrx=>
    intro o ho ρ w;obtain rfl:=Option.some.inj ho;simp [go_sem]
   case hry=>
    intro o ho ρ w;obtain rfl:=Option.some.inj ho;simp [go_sem]
   case h1=>
    intro bs d;simp only [take_succ_cons,take_zero,map_cons,map_nil,Oper.mask];repeat(go_big_quiet_step ((first|(go_at_call 80;(with_reducible exact Calls.quietMS3 (Z.out _ zv _)))|(go_at_call 150;first|(with_reducible exact Calls.quietM3 (T1.out _))|(with_reducible exact Calls.quietM3 (T2.out _))))))
    exact wpQuiet_nil rfl
   all_goals
    intro gb1 gd1 gb2 gd2 gb gd;simp only [drop_succ_cons,drop_zero,Act.put,setIfInBounds_toArray,set_cons_zero,set_cons_succ,World.grow_grow,World.size_grow,World.size_alloc,Array.size_append]
   all_goals
    clear T1 T2
    go_wp2_with (first|(go_at_call 151;(with_reducible refine gvq (L.out _) ?_);intro bs3 dr3)|(go_at_call 152;(with_reducible refine gvq (O.out _) ?_);intro bs4 dr4))
    clear O L;refine TS.begin [7] (World.Grows _) zf zf aI (fun hS=>?_);refine kq 0 hS ?_;refine kq 1 hS ?_;refine TS.takeC (i:=2) (v:=(.int .u64 (aG ad))) (fn:=80) (args:=#[.int .i64 ad]) rfl zf zf zf zo (fun _ _ _ h=>h) rfl hS ?_ ?_ ?_
    focus
     rintro wS ⟨gbS,gdS,rfl⟩
     go_simp
    focus exact fun wS _=>(Z.out _ zv wS)
    (try simp only [nS])
    refine kq 3 hS ?_;refine kq 4 hS ?_;refine TS.takeC (i:=5) (v:=(.int .u64 (aG bd))) (fn:=80) (args:=#[.int .i64 bd]) rfl zf zf zf zo (fun _ _ _ h=>h) rfl hS ?_ ?_ ?_
    focus
     rintro wS ⟨gbS,gdS,rfl⟩
     go_simp
    focus exact fun wS _=>(Z.out _ zv wS)
    (try simp only [nS])
    refine kq 6 hS ?_;refine TS.weB 7 ?_;clear hS
    go_wp2_with (first|(go_at_call 154;(with_reducible refine gvq (R.out _) ?_);intro bs5 dr5)|(go_at_call 79;(with_reducible refine gvq (G.out _) ?_);intro bs6 dr6))
   all_goals
    clear R G;have gz:¬g=0:=by omega
    refine TS.begin [11,12] (World.Grows _) zf zf aI (fun hS=>?_);refine kq 0 hS ?_;refine kq 1 hS ?_;refine kq 2 hS ?_;refine kq 4 hS ?_;refine kq 5 hS ?_;refine TS.takeV (i:=6) (v:=.int .u64 (q)) rfl zf zf zf zo (fun _ _ _ h=>h) rfl hS ?_ ?_
    focus
     rintro wS ⟨gbS,gdS,rfl⟩
     go_simp
     (try exact eq)
    (try simp only [nS])
    refine kq 7 hS ?_;refine TS.one (i:=3) zf rfl (fun K1 hK1=>?_)
    go_simp
    go_at_call 155
    refine gvq (U.out _) ?_;intro bA dA;refine TS.go hK1 zA (fun hS=>?_);clear hK1 K1
    (try simp only [nS])
    refine TS.one (i:=8) zf rfl (fun K1 hK1=>?_)
    go_simp
    go_at_call 149
    refine gvq (Q.out _) ?_;intro bA dA;refine TS.go hK1 zA (fun hS=>?_);clear hK1 K1
    (try simp only [nS])
    refine kq 9 hS ?_;refine kq 10 hS ?_;refine TS.wtB 11 ?_;refine TS.weB 12 ?_;clear hS
    go_wp2_with fail
    go_returns
    exact⟨rfl,.of_below af⟩
 ·have z3:(zh==0)=false:=by simpa using z1
  obtain⟨Q,U,R,G⟩:=hq (.inl z1);clear hz hq
  go_enter func131,ntmps131
  go_wp2_with (first|(go_at_call 61;(with_reducible refine gvq (V1.out _) ?_);intro bs dr)|(go_at_call 61;(with_reducible refine gvq (V2.out _) ?_);intro bs2 dr2))
  generalize bs++bs2=B;apply aK 16 (14,6,.cells #[.int .u64 0,.int .u64 0] 198) (15,7,.cells #[.int .u64 0,.int .u64 0] 198) zf zf
  case hrx=>
   intro o ho ρ w;obtain rfl:=Option.some.inj ho;simp [go_sem]
  case hry=>
   intro o ho ρ w;obtain rfl:=Option.some.inj ho;simp [go_sem]
  case h1=>
   intro bs d;simp only [take_succ_cons,take_zero,map_cons,map_nil,Oper.mask];repeat(go_big_quiet_step ((first|(go_at_call 80;(with_reducible exact Calls.quietMS3 (Z.out _ zv _)))|(go_at_call 150;first|(with_reducible exact Calls.quietM3 (T1.out _))|(with_reducible exact Calls.quietM3 (T2.out _))))))
   exact wpQuiet_nil rfl
  all_goals
   intro gb1 gd1 gb2 gd2 gb gd;simp only [drop_succ_cons,drop_zero,Act.put,setIfInBounds_toArray,set_cons_zero,set_cons_succ,World.grow_grow,World.size_grow,World.size_alloc,Array.size_append]
  all_goals
   clear T1 T2
   go_wp2_with (first|(go_at_call 151;(with_reducible refine gvq (L.out _) ?_);intro bs3 dr3)|(go_at_call 152;(with_reducible refine gvq (O.out _) ?_);intro bs4 dr4))
   clear O L;refine TS.begin [7] (World.Grows _) zf zf aI (fun hS=>?_);refine kq 0 hS ?_;refine kq 1 hS ?_;refine TS.takeC (i:=2) (v:=(.int .u64 (aG ad))) (fn:=80) (args:=#[.int .i64 ad]) rfl zf zf zf zo (fun _ _ _ h=>h) rfl hS ?_ ?_ ?_
   focus
    rintro wS ⟨gbS,gdS,rfl⟩
    go_simp
   focus exact fun wS _=>(Z.out _ zv wS)
   (try simp only [nS])
   refine kq 3 hS ?_;refine kq 4 hS ?_;refine TS.takeC (i:=5) (v:=(.int .u64 (aG bd))) (fn:=80) (args:=#[.int .i64 bd]) rfl zf zf zf zo (fun _ _ _ h=>h) rfl hS ?_ ?_ ?_
   focus
    rintro wS ⟨gbS,gdS,rfl⟩
    go_simp
   focus exact fun wS _=>(Z.out _ zv wS)
   (try simp only [nS])
   refine kq 6 hS ?_;refine TS.weB 7 ?_;clear hS
   go_wp2_with (first|(go_at_call 154;(with_reducible refine gvq (R.out _) ?_);intro bs5 dr5)|(go_at_call 79;(with_reducible refine gvq (G.out _) ?_);intro bs6 dr6))
  all_goals
   clear R G;have gz:¬g=0:=by omega
   refine TS.begin [11,12] (World.Grows _) zf zf aI (fun hS=>?_);refine kq 0 hS ?_;refine kq 1 hS ?_;refine kq 2 hS ?_;refine kq 4 hS ?_;refine kq 5 hS ?_;refine TS.takeV (i:=6) (v:=.int .u64 (q)) rfl zf zf zf zo (fun _ _ _ h=>h) rfl hS ?_ ?_
   focus
    rintro wS ⟨gbS,gdS,rfl⟩
    go_simp
    (try exact eq)
   (try simp only [nS])
   refine kq 7 hS ?_;refine TS.one (i:=3) zf rfl (fun K1 hK1=>?_)
   go_simp
   go_at_call 155
   refine gvq (U.out _) ?_;intro bA dA;refine TS.go hK1 zA (fun hS=>?_);clear hK1 K1
   (try simp only [nS])
   refine TS.one (i:=8) zf rfl (fun K1 hK1=>?_)
   go_simp
   go_at_call 149
   refine gvq (Q.out _) ?_;intro bA dA;refine TS.go hK1 zA (fun hS=>?_);clear hK1 K1
   (try simp only [nS])
   refine kq 9 hS ?_;refine kq 10 hS ?_;refine TS.wtB 11 ?_;refine TS.weB 12 ?_;clear hS
   go_wp2_with fail
   go_returns
   exact⟨rfl,.of_below af⟩


theorem JR(an ad bn bd xh xl yh yl zh zl D r g q oh ol n1 n2 n3:Int)(s t:Bool)(w:World)(h1:decide (an<0)=s)(h2:decide (bn<0)=t)(h3:(s==t)=false)
 (V1:Hid (∀w,Calls prog 61 #[.agg #[.int .i64 an,.int .i64 ad]] w fun e w'=>e= .returned (.bool true)/\w.Grows w')) (V2:Hid (∀w,Calls prog 61 #[.agg #[.int .i64 bn,.int .i64 bd]] w fun e w'=>e= .returned (.bool true)/\w.Grows w'))
 (Z:Hid (∀n,I64 n->∀w,Calls prog 80 #[.int .i64 n] w fun e w'=>e= .returned (.int .u64 (aG n))/\w=w')) (I1:I64 an) (I2:I64 ad) (I3:I64 bn) (I4:I64 bd)
 (T1:Hid (∀w,Calls prog 150 #[.int .u64 (aG an),.int .u64 (aG bd)] w fun e w'=>e= .returned (.agg #[.int .u64 xh,.int .u64 xl])/\w.Grows w')) (T2:Hid (∀w,Calls prog 150 #[.int .u64 (aG bn),.int .u64 (aG ad)] w fun e w'=>e= .returned (.agg #[.int .u64 yh,.int .u64 yl])/\w.Grows w')) (u3:IntKind.u64.wrap (aG ad*aG bd)=D) (g1:1<=g) (g0:(g==0)=false) (eq:IntKind.u64.wrap (D.tdiv g)=q)
 (L:Hid (∀w,Calls prog 151 #[.agg #[.int .u64 xh,.int .u64 xl],.agg #[.int .u64 yh,.int .u64 yl]] w fun e w'=>e= .returned (.bool true)/\w.Grows w'))
 (O:Hid (∀w,Calls prog 153 #[.agg #[.int .u64 yh,.int .u64 yl],.agg #[.int .u64 xh,.int .u64 xl]] w fun e w'=>e= .returned (.agg #[.int .u64 zh,.int .u64 zl])/\w.Grows w'))
 (hz:zh=0->zl=0->n1=0/\n2=1/\n3=0)
 (hq:zh≠0\/zl≠0->Hid (∀w,Calls prog 149 #[.bool (!s),.agg #[.int .u64 oh,.int .u64 ol],.agg #[.int .u64 0,.int .u64 q]] w fun e w'=>(e= .returned (.tuple #[.agg #[.int .i64 n1,.int .i64 n2],.int .i64 n3])/\w.Grows w'))/\
  Hid (∀w,Calls prog 155 #[.agg #[.int .u64 zh,.int .u64 zl],.int .u64 g] w fun e w'=>e= .returned (.agg #[.int .u64 oh,.int .u64 ol])/\w.Grows w')/\
  Hid (∀w,Calls prog 154 #[.int .u64 zh,.int .u64 zl,.int .u64 D] w fun e w'=>e= .returned (.int .u64 r)/\w.Grows w')/\
  Hid (∀w,Calls prog 79 #[.int .u64 D,.int .u64 r] w fun e w'=>e= .returned (.int .u64 g)/\w.Grows w'))
 :Calls prog 131 (#[.agg #[.int .i64 an,.int .i64 ad],.agg #[.int .i64 bn,.int .i64 bd]]) w fun e w'=>(e= .returned (.tuple #[.agg #[.int .i64 n1,.int .i64 n2],.int .i64 n3])/\w.Grows w'):=by
 by_cases z1:zh=0
 ·subst z1;by_cases z2:zl=0
  ·subst z2;have R:Hid True:=yq trivial;have G:Hid True:=yq trivial;have E:=yq (hz rfl rfl);clear hz
   go_enter func131,ntmps131
   go_wp2_with (first|(go_at_call 61;(with_reducible refine gvq (V1.out _) ?_);intro bs dr)|(go_at_call 61;(with_reducible refine gvq (V2.out _) ?_);intro bs2 dr2))
   generalize bs++bs2=B;apply aK 16 (14,6,.cells #[.int .u64 0,.int .u64 0] 198) (15,7,.cells #[.int .u64 0,.int .u64 0] 198) zf zf
   case hrx=>
    intro o ho ρ w;obtain rfl:=Option.some.inj ho;simp [go_sem]
   case hry=>
    intro o ho ρ w;obtain rfl:=Option.some.inj ho;simp [go_sem]
   case h1=>
    intro bs d;simp only [take_succ_cons,take_zero,map_cons,map_nil,Oper.mask];repeat(go_big_quiet_step ((first|(go_at_call 80;(with_reducible exact Calls.quietMS3 (Z.out _ zv _)))|(go_at_call 150;first|(with_reducible exact Calls.quietM3 (T1.out _))|(with_reducible exact Calls.quietM3 (T2.out _))))))
    exact wpQuiet_nil rfl
   all_goals
    intro gb1 gd1 gb2 gd2 gb gd;simp only [drop_succ_cons,drop_zero,Act.put,setIfInBounds_toArray,set_cons_zero,set_cons_succ,World.grow_grow,World.size_grow,World.size_alloc,Array.size_append]
   all_goals
    clear T1 T2
    go_wp2_with (first|(go_at_call 151;(with_reducible refine gvq (L.out _) ?_);intro bs3 dr3)|(go_at_call 153;(with_reducible refine gvq (O.out _) ?_);intro bs4 dr4))
    clear O L;refine TS.begin [7] (World.Grows _) zf zf aI (fun hS=>?_);refine kq 0 hS ?_;refine kq 1 hS ?_;refine TS.takeC (i:=2) (v:=(.int .u64 (aG ad))) (fn:=80) (args:=#[.int .i64 ad]) rfl zf zf zf zo (fun _ _ _ h=>h) rfl hS ?_ ?_ ?_
    focus
     rintro wS ⟨gbS,gdS,rfl⟩
     go_simp
    focus exact fun wS _=>(Z.out _ zv wS)
    (try simp only [nS])
    refine kq 3 hS ?_;refine kq 4 hS ?_;refine TS.takeC (i:=5) (v:=(.int .u64 (aG bd))) (fn:=80) (args:=#[.int .i64 bd]) rfl zf zf zf zo (fun _ _ _ h=>h) rfl hS ?_ ?_ ?_
    focus
     rintro wS ⟨gbS,gdS,rfl⟩
     go_simp
    focus exact fun wS _=>(Z.out _ zv wS)
    (try simp only [nS])
    refine kq 6 hS ?_;refine TS.weB 7 ?_;clear hS
    go_wp2_with (first|(go_at_call 154;(with_reducible refine gvq (R.out _) ?_);intro bs5 dr5)|(go_at_call 79;(with_reducible refine gvq (G.out _) ?_);intro bs6 dr6))
   all_goals
    go_returns
    exact⟨by rw [E.out.1,E.out.2.1,E.out.2.2],.of_below af⟩
  ·have z3:(zl==0)=false:=by simpa using z2
   obtain⟨Q,U,R,G⟩:=hq (.inr z2);clear hz hq
   go_enter func131,ntmps131
   go_wp2_with (first|(go_at_call 61;(with_reducible refine gvq (V1.out _) ?_);intro bs dr)|(go_at_call 61;(with_reducible refine gvq (V2.out _) ?_);intro bs2 dr2))
   generalize bs++bs2=B;apply aK 16 (14,6,.cells #[.int .u64 0,.int .u64 0] 198) (15,7,.cells #[.int .u64 0,.int .u64 0] 198) zf zf
   case hrx=>
    intro o ho ρ w;obtain rfl:=Option.some.inj ho;simp [go_sem]
   case hry=>
    intro o ho ρ w;obtain rfl:=Option.some.inj ho;simp [go_sem]
   case h1=>
    intro bs d;simp only [take_succ_cons,take_zero,map_cons,map_nil,Oper.mask];repeat(go_big_quiet_step ((first|(go_at_call 80;(with_reducible exact Calls.quietMS3 (Z.out _ zv _)))|(go_at_call 150;first|(with_reducible exact Calls.quietM3 (T1.out _))|(with_reducible exact Calls.quietM3 (T2.out _))))))
    exact wpQuiet_nil rfl
   all_goals
    intro gb1 gd1 gb2 gd2 gb gd;simp only [drop_succ_cons,drop_zero,Act.put,setIfInBounds_toArray,set_cons_zero,set_cons_succ,World.grow_grow,World.size_grow,World.size_alloc,Array.size_append]
   all_goals
    clear T1 T2
    go_wp2_with (first|(go_at_call 151;(with_reducible refine gvq (L.out _) ?_);intro bs3 dr3)|(go_at_call 153;(with_reducible refine gvq (O.out _) ?_);intro bs4 dr4))
    clear O L;refine TS.begin [7] (World.Grows _) zf zf aI (fun hS=>?_);refine kq 0 hS ?_;refine kq 1 hS ?_;refine TS.takeC (i:=2) (v:=(.int .u64 (aG ad))) (fn:=80) (args:=#[.int .i64 ad]) rfl zf zf zf zo (fun _ _ _ h=>h) rfl hS ?_ ?_ ?_
    focus
     rintro wS ⟨gbS,gdS,rfl⟩
     go_simp
    focus exact fun wS _=>(Z.out _ zv wS)
    (try simp only [nS])
    refine kq 3 hS ?_;refine kq 4 hS ?_;refine TS.takeC (i:=5) (v:=(.int .u64 (aG bd))) (fn:=80) (args:=#[.int .i64 bd]) rfl zf zf zf zo (fun _ _ _ h=>h) rfl hS ?_ ?_ ?_
    focus
     rintro wS ⟨gbS,gdS,rfl⟩
     go_simp
    focus exact fun wS _=>(Z.out _ zv wS)
    (try simp only [nS])
    refine kq 6 hS ?_;refine TS.weB 7 ?_;clear hS
    go_wp2_with (first|(go_at_call 154;(with_reducible refine gvq (R.out _) ?_);intro bs5 dr5)|(go_at_call 79;(with_reducible refine gvq (G.out _) ?_);intro bs6 dr6))
   all_goals
    clear R G;have gz:¬g=0:=by omega
    refine TS.begin [11,12] (World.Grows _) zf zf aI (fun hS=>?_);refine kq 0 hS ?_;refine kq 1 hS ?_;refine kq 2 hS ?_;refine kq 4 hS ?_;refine kq 5 hS ?_;refine TS.takeV (i:=6) (v:=.int .u64 (q)) rfl zf zf zf zo (fun _ _ _ h=>h) rfl hS ?_ ?_
    focus
     rintro wS ⟨gbS,gdS,rfl⟩
     go_simp
     (try exact eq)
    (try simp only [nS])
    refine kq 7 hS ?_;refine TS.one (i:=3) zf rfl (fun K1 hK1=>?_)
    go_simp
    go_at_call 155
    refine gvq (U.out _) ?_;intro bA dA;refine TS.go hK1 zA (fun hS=>?_);clear hK1 K1
    (try simp only [nS])
    refine TS.one (i:=8) zf rfl (fun K1 hK1=>?_)
    go_simp
    go_at_call 149
    refine gvq (Q.out _) ?_;intro bA dA;refine TS.go hK1 zA (fun hS=>?_);clear hK1 K1
    (try simp only [nS])
    refine kq 9 hS ?_;refine kq 10 hS ?_;refine TS.wtB 11 ?_;refine TS.weB 12 ?_;clear hS
    go_wp2_with fail
    go_returns
    exact⟨rfl,.of_below af⟩
 ·have z3:(zh==0)=false:=by simpa using z1
  obtain⟨Q,U,R,G⟩:=hq (.inl z1);clear hz hq
  go_enter func131,ntmps131
  go_wp2_with (first|(go_at_call 61;(with_reducible refine gvq (V1.out _) ?_);intro bs dr)|(go_at_call 61;(with_reducible refine gvq (V2.out _) ?_);intro bs2 dr2))
  generalize bs++bs2=B;apply aK 16 (14,6,.cells #[.int .u64 0,.int .u64 0] 198) (15,7,.cells #[.int .u64 0,.int .u64 0] 198) zf zf
  case hrx=>
   intro o ho ρ w;obtain rfl:=Option.some.inj ho;simp [go_sem]
  case hry=>
   intro o ho ρ w;obtain rfl:=Option.some.inj ho;simp [go_sem]
  case h1=>
   intro bs d;simp only [take_succ_cons,take_zero,map_cons,map_nil,Oper.mask];repeat(go_big_quiet_step ((first|(go_at_call 80;(with_reducible exact Calls.quietMS3 (Z.out _ zv _)))|(go_at_call 150;first|(with_reducible exact Calls.quietM3 (T1.out _))|(with_reducible exact Calls.quietM3 (T2.out _))))))
   exact wpQuiet_nil rfl
  all_goals
   intro gb1 gd1 gb2 gd2 gb gd;simp only [drop_succ_cons,drop_zero,Act.put,setIfInBounds_toArray,set_cons_zero,set_cons_succ,World.grow_grow,World.size_grow,World.size_alloc,Array.size_append]
  all_goals
   clear T1 T2
   go_wp2_with (first|(go_at_call 151;(with_reducible refine gvq (L.out _) ?_);intro bs3 dr3)|(go_at_call 153;(with_reducible refine gvq (O.out _) ?_);intro bs4 dr4))
   clear O L;refine TS.begin [7] (World.Grows _) zf zf aI (fun hS=>?_);refine kq 0 hS ?_;refine kq 1 hS ?_;refine TS.takeC (i:=2) (v:=(.int .u64 (aG ad))) (fn:=80) (args:=#[.int .i64 ad]) rfl zf zf zf zo (fun _ _ _ h=>h) rfl hS ?_ ?_ ?_
   focus
    rintro wS ⟨gbS,gdS,rfl⟩
    go_simp
   focus exact fun wS _=>(Z.out _ zv wS)
   (try simp only [nS])
   refine kq 3 hS ?_;refine kq 4 hS ?_;refine TS.takeC (i:=5) (v:=(.int .u64 (aG bd))) (fn:=80) (args:=#[.int .i64 bd]) rfl zf zf zf zo (fun _ _ _ h=>h) rfl hS ?_ ?_ ?_
   focus
    rintro wS ⟨gbS,gdS,rfl⟩
    go_simp
   focus exact fun wS _=>(Z.out _ zv wS)
   (try simp only [nS])
   refine kq 6 hS ?_;refine TS.weB 7 ?_;clear hS
   go_wp2_with (first|(go_at_call 154;(with_reducible refine gvq (R.out _) ?_);intro bs5 dr5)|(go_at_call 79;(with_reducible refine gvq (G.out _) ?_);intro bs6 dr6))
  all_goals
   clear R G;have gz:¬g=0:=by omega
   refine TS.begin [11,12] (World.Grows _) zf zf aI (fun hS=>?_);refine kq 0 hS ?_;refine kq 1 hS ?_;refine kq 2 hS ?_;refine kq 4 hS ?_;refine kq 5 hS ?_;refine TS.takeV (i:=6) (v:=.int .u64 (q)) rfl zf zf zf zo (fun _ _ _ h=>h) rfl hS ?_ ?_
   focus
    rintro wS ⟨gbS,gdS,rfl⟩
    go_simp
    (try exact eq)
   (try simp only [nS])
   refine kq 7 hS ?_;refine TS.one (i:=3) zf rfl (fun K1 hK1=>?_)
   go_simp
   go_at_call 155
   refine gvq (U.out _) ?_;intro bA dA;refine TS.go hK1 zA (fun hS=>?_);clear hK1 K1
   (try simp only [nS])
   refine TS.one (i:=8) zf rfl (fun K1 hK1=>?_)
   go_simp
   go_at_call 149
   refine gvq (Q.out _) ?_;intro bA dA;refine TS.go hK1 zA (fun hS=>?_);clear hK1 K1
   (try simp only [nS])
   refine kq 9 hS ?_;refine kq 10 hS ?_;refine TS.wtB 11 ?_;refine TS.weB 12 ?_;clear hS
   go_wp2_with fail
   go_returns
   exact⟨rfl,.of_below af⟩


theorem JQ(an ad bn bd xh xl yh yl zh zl D r g q oh ol n1 n2 n3:Int)(s t:Bool)(w:World)(h1:decide (an<0)=s)(h2:decide (bn<0)=t)(h3:(s==t)=false)
 (V1:Hid (∀w,Calls prog 61 #[.agg #[.int .i64 an,.int .i64 ad]] w fun e w'=>e= .returned (.bool true)/\w.Grows w')) (V2:Hid (∀w,Calls prog 61 #[.agg #[.int .i64 bn,.int .i64 bd]] w fun e w'=>e= .returned (.bool true)/\w.Grows w'))
 (Z:Hid (∀n,I64 n->∀w,Calls prog 80 #[.int .i64 n] w fun e w'=>e= .returned (.int .u64 (aG n))/\w=w')) (I1:I64 an) (I2:I64 ad) (I3:I64 bn) (I4:I64 bd)
 (T1:Hid (∀w,Calls prog 150 #[.int .u64 (aG an),.int .u64 (aG bd)] w fun e w'=>e= .returned (.agg #[.int .u64 xh,.int .u64 xl])/\w.Grows w')) (T2:Hid (∀w,Calls prog 150 #[.int .u64 (aG bn),.int .u64 (aG ad)] w fun e w'=>e= .returned (.agg #[.int .u64 yh,.int .u64 yl])/\w.Grows w')) (u3:IntKind.u64.wrap (aG ad*aG bd)=D) (g1:1<=g) (g0:(g==0)=false) (eq:IntKind.u64.wrap (D.tdiv g)=q)
 (L:Hid (∀w,Calls prog 151 #[.agg #[.int .u64 xh,.int .u64 xl],.agg #[.int .u64 yh,.int .u64 yl]] w fun e w'=>e= .returned (.bool false)/\w.Grows w'))
 (O:Hid (∀w,Calls prog 153 #[.agg #[.int .u64 xh,.int .u64 xl],.agg #[.int .u64 yh,.int .u64 yl]] w fun e w'=>e= .returned (.agg #[.int .u64 zh,.int .u64 zl])/\w.Grows w'))
 (hz:zh=0->zl=0->n1=0/\n2=1/\n3=0)
 (hq:zh≠0\/zl≠0->Hid (∀w,Calls prog 149 #[.bool s,.agg #[.int .u64 oh,.int .u64 ol],.agg #[.int .u64 0,.int .u64 q]] w fun e w'=>(e= .returned (.tuple #[.agg #[.int .i64 n1,.int .i64 n2],.int .i64 n3])/\w.Grows w'))/\
  Hid (∀w,Calls prog 155 #[.agg #[.int .u64 zh,.int .u64 zl],.int .u64 g] w fun e w'=>e= .returned (.agg #[.int .u64 oh,.int .u64 ol])/\w.Grows w')/\
  Hid (∀w,Calls prog 154 #[.int .u64 zh,.int .u64 zl,.int .u64 D] w fun e w'=>e= .returned (.int .u64 r)/\w.Grows w')/\
  Hid (∀w,Calls prog 79 #[.int .u64 D,.int .u64 r] w fun e w'=>e= .returned (.int .u64 g)/\w.Grows w'))
 :Calls prog 131 (#[.agg #[.int .i64 an,.int .i64 ad],.agg #[.int .i64 bn,.int .i64 bd]]) w fun e w'=>(e= .returned (.tuple #[.agg #[.int .i64 n1,.int .i64 n2],.int .i64 n3])/\w.Grows w'):=by
 by_cases z1:zh=0
 ·subst z1;by_cases z2:zl=0
  ·subst z2;have R:Hid True:=yq trivial;have G:Hid True:=yq trivial;have E:=yq (hz rfl rfl);clear hz
   go_enter func131,ntmps131
   go_wp2_with (first|(go_at_call 61;(with_reducible refine gvq (V1.out _) ?_);intro bs dr)|(go_at_call 61;(with_reducible refine gvq (V2.out _) ?_);intro bs2 dr2))
   generalize bs++bs2=B;apply aK 16 (14,6,.cells #[.int .u64 0,.int .u64 0] 198) (15,7,.cells #[.int .u64 0,.int .u64 0] 198) zf zf
   case hrx=>
    intro o ho ρ w;obtain rfl:=Option.some.inj ho;simp [go_sem]
   case hry=>
    intro o ho ρ w;obtain rfl:=Option.some.inj ho;simp [go_sem]
   case h1=>
    intro bs d;simp only [take_succ_cons,take_zero,map_cons,map_nil,Oper.mask];repeat(go_big_quiet_step ((first|(go_at_call 80;(with_reducible exact Calls.quietMS3 (Z.out _ zv _)))|(go_at_call 150;first|(with_reducible exact Calls.quietM3 (T1.out _))|(with_reducible exact Calls.quietM3 (T2.out _))))))
    exact wpQuiet_nil rfl
   all_goals
    intro gb1 gd1 gb2 gd2 gb gd;simp only [drop_succ_cons,drop_zero,Act.put,setIfInBounds_toArray,set_cons_zero,set_cons_succ,World.grow_grow,World.size_grow,World.size_alloc,Array.size_append]
   all_goals
    clear T1 T2
    go_wp2_with (first|(go_at_call 151;(with_reducible refine gvq (L.out _) ?_);intro bs3 dr3)|(go_at_call 153;(with_reducible refine gvq (O.out _) ?_);intro bs4 dr4))
    clear O L;refine TS.begin [7] (World.Grows _) zf zf aI (fun hS=>?_);refine kq 0 hS ?_;refine kq 1 hS ?_;refine TS.takeC (i:=2) (v:=(.int .u64 (aG ad))) (fn:=80) (args:=#[.int .i64 ad]) rfl zf zf zf zo (fun _ _ _ h=>h) rfl hS ?_ ?_ ?_
    focus
     rintro wS ⟨gbS,gdS,rfl⟩
     go_simp
    focus exact fun wS _=>(Z.out _ zv wS)
    (try simp only [nS])
    refine kq 3 hS ?_;refine kq 4 hS ?_;refine TS.takeC (i:=5) (v:=(.int .u64 (aG bd))) (fn:=80) (args:=#[.int .i64 bd]) rfl zf zf zf zo (fun _ _ _ h=>h) rfl hS ?_ ?_ ?_
    focus
     rintro wS ⟨gbS,gdS,rfl⟩
     go_simp
    focus exact fun wS _=>(Z.out _ zv wS)
    (try simp only [nS])
    refine kq 6 hS ?_;refine TS.weB 7 ?_;clear hS
    go_wp2_with (first|(go_at_call 154;(with_reducible refine gvq (R.out _) ?_);intro bs5 dr5)|(go_at_call 79;(with_reducible refine gvq (G.out _) ?_);intro bs6 dr6))
   all_goals
    go_returns
    exact⟨by rw [E.out.1,E.out.2.1,E.out.2.2],.of_below af⟩
  ·have z3:(zl==0)=false:=by simpa using z2
   obtain⟨Q,U,R,G⟩:=hq (.inr z2);clear hz hq
   go_enter func131,ntmps131
   go_wp2_with (first|(go_at_call 61;(with_reducible refine gvq (V1.out _) ?_);intro bs dr)|(go_at_call 61;(with_reducible refine gvq (V2.out _) ?_);intro bs2 dr2))
   generalize bs++bs2=B;apply aK 16 (14,6,.cells #[.int .u64 0,.int .u64 0] 198) (15,7,.cells #[.int .u64 0,.int .u64 0] 198) zf zf
   case hrx=>
    intro o ho ρ w;obtain rfl:=Option.some.inj ho;simp [go_sem]
   case hry=>
    intro o ho ρ w;obtain rfl:=Option.some.inj ho;simp [go_sem]
   case h1=>
    intro bs d;simp only [take_succ_cons,take_zero,map_cons,map_nil,Oper.mask];repeat(go_big_quiet_step ((first|(go_at_call 80;(with_reducible exact Calls.quietMS3 (Z.out _ zv _)))|(go_at_call 150;first|(with_reducible exact Calls.quietM3 (T1.out _))|(with_reducible exact Calls.quietM3 (T2.out _))))))
    exact wpQuiet_nil rfl
   all_goals
    intro gb1 gd1 gb2 gd2 gb gd;simp only [drop_succ_cons,drop_zero,Act.put,setIfInBounds_toArray,set_cons_zero,set_cons_succ,World.grow_grow,World.size_grow,World.size_alloc,Array.size_append]
   all_goals
    clear T1 T2
    go_wp2_with (first|(go_at_call 151;(with_reducible refine gvq (L.out _) ?_);intro bs3 dr3)|(go_at_call 153;(with_reducible refine gvq (O.out _) ?_);intro bs4 dr4))
    clear O L;refine TS.begin [7] (World.Grows _) zf zf aI (fun hS=>?_);refine kq 0 hS ?_;refine kq 1 hS ?_;refine TS.takeC (i:=2) (v:=(.int .u64 (aG ad))) (fn:=80) (args:=#[.int .i64 ad]) rfl zf zf zf zo (fun _ _ _ h=>h) rfl hS ?_ ?_ ?_
    focus
     rintro wS ⟨gbS,gdS,rfl⟩
     go_simp
    focus exact fun wS _=>(Z.out _ zv wS)
    (try simp only [nS])
    refine kq 3 hS ?_;refine kq 4 hS ?_;refine TS.takeC (i:=5) (v:=(.int .u64 (aG bd))) (fn:=80) (args:=#[.int .i64 bd]) rfl zf zf zf zo (fun _ _ _ h=>h) rfl hS ?_ ?_ ?_
    focus
     rintro wS ⟨gbS,gdS,rfl⟩
     go_simp
    focus exact fun wS _=>(Z.out _ zv wS)
    (try simp only [nS])
    refine kq 6 hS ?_;refine TS.weB 7 ?_;clear hS
    go_wp2_with (first|(go_at_call 154;(with_reducible refine gvq (R.out _) ?_);intro bs5 dr5)|(go_at_call 79;(with_reducible refine gvq (G.out _) ?_);intro bs6 dr6))
   all_goals
    clear R G;have gz:¬g=0:=by omega
    refine TS.begin [11,12] (World.Grows _) zf zf aI (fun hS=>?_);refine kq 0 hS ?_;refine kq 1 hS ?_;refine kq 2 hS ?_;refine kq 4 hS ?_;refine kq 5 hS ?_;refine TS.takeV (i:=6) (v:=.int .u64 (q)) rfl zf zf zf zo (fun _ _ _ h=>h) rfl hS ?_ ?_
    focus
     rintro wS ⟨gbS,gdS,rfl⟩
     go_simp
     (try exact eq)
    (try simp only [nS])
    refine kq 7 hS ?_;refine TS.one (i:=3) zf rfl (fun K1 hK1=>?_)
    go_simp
    go_at_call 155
    refine gvq (U.out _) ?_;intro bA dA;refine TS.go hK1 zA (fun hS=>?_);clear hK1 K1
    (try simp only [nS])
    refine TS.one (i:=8) zf rfl (fun K1 hK1=>?_)
    go_simp
    go_at_call 149
    refine gvq (Q.out _) ?_;intro bA dA;refine TS.go hK1 zA (fun hS=>?_);clear hK1 K1
    (try simp only [nS])
    refine kq 9 hS ?_;refine kq 10 hS ?_;refine TS.wtB 11 ?_;refine TS.weB 12 ?_;clear hS
    go_wp2_with fail
    go_returns
    exact⟨rfl,.of_below af⟩
 ·have z3:(zh==0)=false:=by simpa using z1
  obtain⟨Q,U,R,G⟩:=hq (.inl z1);clear hz hq
  go_enter func131,ntmps131
  go_wp2_with (first|(go_at_call 61;(with_reducible refine gvq (V1.out _) ?_);intro bs dr)|(go_at_call 61;(with_reducible refine gvq (V2.out _) ?_);intro bs2 dr2))
  generalize bs++bs2=B;apply aK 16 (14,6,.cells #[.int .u64 0,.int .u64 0] 198) (15,7,.cells #[.int .u64 0,.int .u64 0] 198) zf zf
  case hrx=>
   intro o ho ρ w;obtain rfl:=Option.some.inj ho;simp [go_sem]
  case hry=>
   intro o ho ρ w;obtain rfl:=Option.some.inj ho;simp [go_sem]
  case h1=>
   intro bs d;simp only [take_succ_cons,take_zero,map_cons,map_nil,Oper.mask];repeat(go_big_quiet_step ((first|(go_at_call 80;(with_reducible exact Calls.quietMS3 (Z.out _ zv _)))|(go_at_call 150;first|(with_reducible exact Calls.quietM3 (T1.out _))|(with_reducible exact Calls.quietM3 (T2.out _))))))
   exact wpQuiet_nil rfl
  all_goals
   intro gb1 gd1 gb2 gd2 gb gd;simp only [drop_succ_cons,drop_zero,Act.put,setIfInBounds_toArray,set_cons_zero,set_cons_succ,World.grow_grow,World.size_grow,World.size_alloc,Array.size_append]
  all_goals
   clear T1 T2
   go_wp2_with (first|(go_at_call 151;(with_reducible refine gvq (L.out _) ?_);intro bs3 dr3)|(go_at_call 153;(with_reducible refine gvq (O.out _) ?_);intro bs4 dr4))
   clear O L;refine TS.begin [7] (World.Grows _) zf zf aI (fun hS=>?_);refine kq 0 hS ?_;refine kq 1 hS ?_;refine TS.takeC (i:=2) (v:=(.int .u64 (aG ad))) (fn:=80) (args:=#[.int .i64 ad]) rfl zf zf zf zo (fun _ _ _ h=>h) rfl hS ?_ ?_ ?_
   focus
    rintro wS ⟨gbS,gdS,rfl⟩
    go_simp
   focus exact fun wS _=>(Z.out _ zv wS)
   (try simp only [nS])
   refine kq 3 hS ?_;refine kq 4 hS ?_;refine TS.takeC (i:=5) (v:=(.int .u64 (aG bd))) (fn:=80) (args:=#[.int .i64 bd]) rfl zf zf zf zo (fun _ _ _ h=>h) rfl hS ?_ ?_ ?_
   focus
    rintro wS ⟨gbS,gdS,rfl⟩
    go_simp
   focus exact fun wS _=>(Z.out _ zv wS)
   (try simp only [nS])
   refine kq 6 hS ?_;refine TS.weB 7 ?_;clear hS
   go_wp2_with (first|(go_at_call 154;(with_reducible refine gvq (R.out _) ?_);intro bs5 dr5)|(go_at_call 79;(with_reducible refine gvq (G.out _) ?_);intro bs6 dr6))
  all_goals
   clear R G;have gz:¬g=0:=by omega
   refine TS.begin [11,12] (World.Grows _) zf zf aI (fun hS=>?_);refine kq 0 hS ?_;refine kq 1 hS ?_;refine kq 2 hS ?_;refine kq 4 hS ?_;refine kq 5 hS ?_;refine TS.takeV (i:=6) (v:=.int .u64 (q)) rfl zf zf zf zo (fun _ _ _ h=>h) rfl hS ?_ ?_
   focus
    rintro wS ⟨gbS,gdS,rfl⟩
    go_simp
    (try exact eq)
   (try simp only [nS])
   refine kq 7 hS ?_;refine TS.one (i:=3) zf rfl (fun K1 hK1=>?_)
   go_simp
   go_at_call 155
   refine gvq (U.out _) ?_;intro bA dA;refine TS.go hK1 zA (fun hS=>?_);clear hK1 K1
   (try simp only [nS])
   refine TS.one (i:=8) zf rfl (fun K1 hK1=>?_)
   go_simp
   go_at_call 149
   refine gvq (Q.out _) ?_;intro bA dA;refine TS.go hK1 zA (fun hS=>?_);clear hK1 K1
   (try simp only [nS])
   refine kq 9 hS ?_;refine kq 10 hS ?_;refine TS.wtB 11 ?_;refine TS.weB 12 ?_;clear hS
   go_wp2_with fail
   go_returns
   exact⟨rfl,.of_below af⟩
end Go.Proofs.YtcfpoofhokbhlaaGreatDoor
