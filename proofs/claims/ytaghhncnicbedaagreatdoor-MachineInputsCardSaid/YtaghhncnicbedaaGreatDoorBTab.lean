import Derived.Test.YtaghhncnicbedaaGreatDoorBShelf3
import Derived.Test.YtaghhncnicbedaaGreatDoorTyRB
import Derived.Test.YtaghhncnicbedaaGreatDoorEnvBB
import Derived.Test.YtaghhncnicbedaaGreatDoorBDecP
import Derived.Test.YtaghhncnicbedaaGreatDoorBK
import Derived.RangeFuncNested
import Derived.RangeFuncBound
import Derived.RangeFuncCalls
import Derived.RangeFuncLeaves
import Derived.Shelf.Abstract
import Derived.Shelf.RegionOpen
import Derived.WalkKit
import Derived.OwnWalkIn
import Derived.TacticsInMore
import Derived.LoopNIn
import Derived.LoopIn
import Derived.Laws.Strings
import Derived.Lib.IndexMore
import Derived.Lib.IndexLaws
import Derived.Deep.QuietTactic
import Derived.ProofKit
import Derived.SizedLaws
import Derived.Deep.Matrix
import Derived.Deep.Fields
import Derived.OpenShut
import Derived.Test.YtaghhncnicbedaaGreatDoorRows
import Derived.Below
import Derived.Handed
import Derived.LaidLaws
import Derived.LaidSub
import Derived.Lay
import Derived.Stop.LaidErr
import Derived.MakeChecks
import Derived.Lib.LaidTab
set_option linter.all false
set_option maxHeartbeats 16000000
set_option maxRecDepth 1000000
namespace Go.Proofs.YtaghhncnicbedaaGreatDoor
open Go.RowKit
def Tab(w:World):Prop:=Lib.TabIs Tryz.prog w "internal/strconv.uint64pow10" .u64 Lib.pow10Tab
theorem Tab.below{w w':World}(h:Tab w)(hb:Below w.heap.size w w'):Tab w':=by
 unfold Tab Lib.TabIs World.var? at *
 cases hg:Program.globalNamed Tryz.prog "internal/strconv.uint64pow10" with
 |none=>simp [hg]at h
 |some g=>
  simp only [hg,Option.bind_some]at h ⊢
  have hlt:g<w.heap.size:=by
   rcases Nat.lt_or_ge g w.heap.size with h'|h'
   ·exact h'
   ·rw [Array.getElem?_eq_none h']at h;simp at h
  rw [hb.block g hlt]
  exact h
theorem Tab.grow{w:World}(h:Tab w)(bs:Array Obj)(d:Nat):Tab (w.grow bs d):=h.below ((Below.refl _ _).grow (Nat.le_refl _) _ _)
theorem Tab.alloc{w:World}(h:Tab w)(o:Obj):Tab (w.alloc o):=h.below ((Below.refl _ _).alloc (Nat.le_refl _) _)
theorem Tab.drewN{w:World}(h:Tab w)(n:Nat):Tab (w.drewN n):=h.below ⟨rfl,rfl,rfl,Nat.le_refl _,fun _ _=>rfl⟩
theorem Tab.grows{w w':World}(h:Tab w)(hg:w.Grows w'):Tab w':=h.below hg.below
theorem Itoa_any(n:Int)(h0:-9223372036854775808≤n)(h1:n≤9223372036854775807)(w:World)(ht:Tab w):Calls Tryz.prog 234 #[.int .i64 n] w fun e w'=>e= .returned (.string ⟨(Lib.itoa n).toArray⟩)∧w.Grows w':=
 (Tryz.strconv_Itoa n h0 h1 w ht).mono fun e w' ⟨he,k,os,hw⟩=>⟨he,by
  subst hw
  refine .of_below ⟨rfl,rfl,rfl,by simp [Sort.grow,World.drewN],fun j hj=>?_⟩
  simp only [Sort.grow,World.drewN]
  rw [Array.getElem?_append_left hj]⟩
theorem Itoa_digit(x:Int)(h0:0≤x)(h1:x≤9)(w:World):Calls Tryz.prog 234 #[.int .i64 x] w fun e w'=>e= .returned (.string ⟨(Lib.decDigits x.toNat).toArray⟩)∧w=w':=by
 obtain⟨i,rfl⟩:=Int.eq_ofNat_of_zero_le h0
 exact(Tryz.strconv_Itoa_small i (by omega) w).mono fun e w' ⟨he,hw⟩=>⟨he,hw.symm⟩
theorem res5_4(x:Int)(b off cap:Nat)(w:World)(c0:w.cell? ⟨b,off,none⟩=some (.int .i64 x))(hX:1≤x):Calls Tryz.prog 98 #[.int .i64 4,.slice (some ⟨b,off,none⟩) 1 cap] w (Res5P (resD 4 [x]) w):=by
 have HR:Hid (resD 4 [x]=resD 4 [x]):=Lib.hid rfl
 generalize hR:resD 4 [x]=R at HR ⊢
 exact bz30
theorem res5_5(x:Int)(b off cap:Nat)(w:World)(c0:w.cell? ⟨b,off,none⟩=some (.int .i64 x))(hX:1≤x):Calls Tryz.prog 98 #[.int .i64 5,.slice (some ⟨b,off,none⟩) 1 cap] w (Res5P (resD 5 [x]) w):=by
 have HR:Hid (resD 5 [x]=resD 5 [x]):=Lib.hid rfl
 generalize hR:resD 5 [x]=R at HR ⊢
 exact bz30
theorem res5_6(x:Int)(b off cap:Nat)(w:World)(c0:w.cell? ⟨b,off,none⟩=some (.int .i64 x))(hX:1≤x):Calls Tryz.prog 98 #[.int .i64 6,.slice (some ⟨b,off,none⟩) 1 cap] w (Res5P (resD 6 [x]) w):=by
 have HR:Hid (resD 6 [x]=resD 6 [x]):=Lib.hid rfl
 generalize hR:resD 6 [x]=R at HR ⊢
 exact bz30
theorem res5_7(x y:Int)(b off cap:Nat)(w:World)(c0:w.cell? ⟨b,off,none⟩=some (.int .i64 x))(c1:w.cell? ⟨b,off+1,none⟩=some (.int .i64 y))(hX:1≤x∧1≤y):Calls Tryz.prog 98 #[.int .i64 7,.slice (some ⟨b,off,none⟩) 2 cap] w (Res5P (resD 7 [x,y]) w):=by
 have HR:Hid (resD 7 [x,y]=resD 7 [x,y]):=Lib.hid rfl
 generalize hR:resD 7 [x,y]=R at HR ⊢
 exact bz3
theorem res5_8(x y:Int)(b off cap:Nat)(w:World)(c0:w.cell? ⟨b,off,none⟩=some (.int .i64 x))(c1:w.cell? ⟨b,off+1,none⟩=some (.int .i64 y))(hX:1≤x∧1≤y):Calls Tryz.prog 98 #[.int .i64 8,.slice (some ⟨b,off,none⟩) 2 cap] w (Res5P (resD 8 [x,y]) w):=by
 have HR:Hid (resD 8 [x,y]=resD 8 [x,y]):=Lib.hid rfl
 generalize hR:resD 8 [x,y]=R at HR ⊢
 exact bz3
theorem res5_9(x y:Int)(b off cap:Nat)(w:World)(c0:w.cell? ⟨b,off,none⟩=some (.int .i64 x))(c1:w.cell? ⟨b,off+1,none⟩=some (.int .i64 y))(hX:1≤x∧1≤y):Calls Tryz.prog 98 #[.int .i64 9,.slice (some ⟨b,off,none⟩) 2 cap] w (Res5P (resD 9 [x,y]) w):=by
 have HR:Hid (resD 9 [x,y]=resD 9 [x,y]):=Lib.hid rfl
 generalize hR:resD 9 [x,y]=R at HR ⊢
 clear HR
 have HR:=Lib.hid hR
 have HX:=Lib.hid hX
 clear hR hX
 go_enter Tryz.func98,Tryz.ntmps98
 by_cases e1:x=2
 focus
  subst e1
 rotate_left
 focus
  have f1:(x==2)=false:=by simpa using e1
  have g1:(2==x)=false:=by simpa using fun h=>e1 h.symm
 rotate_left
 all_goals
  by_cases e2:y=2
  focus
   subst e2
  rotate_left
  focus
   have f2:(y==2)=false:=by simpa using e2
   have g2:(2==y)=false:=by simpa using fun h=>e2 h.symm
  rotate_left
  all_goals
   exact bz1
theorem res5_10(x y:Int)(b off cap:Nat)(w:World)(c0:w.cell? ⟨b,off,none⟩=some (.int .i64 x))(c1:w.cell? ⟨b,off+1,none⟩=some (.int .i64 y))(hX:1≤x∧1≤y):Calls Tryz.prog 98 #[.int .i64 10,.slice (some ⟨b,off,none⟩) 2 cap] w (Res5P (resD 10 [x,y]) w):=by
 have HR:Hid (resD 10 [x,y]=resD 10 [x,y]):=Lib.hid rfl
 generalize hR:resD 10 [x,y]=R at HR ⊢
 clear HR
 have HR:=Lib.hid hR
 have HX:=Lib.hid hX
 clear hR hX
 go_enter Tryz.func98,Tryz.ntmps98
 by_cases e1:y=2
 ·subst e1
  by_cases e2:x=2
  focus
   subst e2
  rotate_left
  focus
   have f2:(x==2)=false:=by simpa using e2
   have g2:(2==x)=false:=by simpa using fun h=>e2 h.symm
  rotate_left
  all_goals
   exact bz1
 ·have f1:(y==2)=false:=by simpa using e1
  have g1:(2==y)=false:=by simpa using fun h=>e1 h.symm
  by_cases e2:x=y
  focus
   subst e2
  rotate_left
  focus
   have f2:(x==y)=false:=by simpa using e2
   have g2:(y==x)=false:=by simpa using fun h=>e2 h.symm
  rotate_left
  all_goals
   exact bz1
theorem res5_11(x y:Int)(b off cap:Nat)(w:World)(c0:w.cell? ⟨b,off,none⟩=some (.int .i64 x))(c1:w.cell? ⟨b,off+1,none⟩=some (.int .i64 y))(hX:1≤x∧1≤y):Calls Tryz.prog 98 #[.int .i64 11,.slice (some ⟨b,off,none⟩) 2 cap] w (Res5P (resD 11 [x,y]) w):=by
 have HR:Hid (resD 11 [x,y]=resD 11 [x,y]):=Lib.hid rfl
 generalize hR:resD 11 [x,y]=R at HR ⊢
 exact bz3
theorem res5_12(x y:Int)(b off cap:Nat)(w:World)(c0:w.cell? ⟨b,off,none⟩=some (.int .i64 x))(c1:w.cell? ⟨b,off+1,none⟩=some (.int .i64 y))(hX:1≤x∧1≤y):Calls Tryz.prog 98 #[.int .i64 12,.slice (some ⟨b,off,none⟩) 2 cap] w (Res5P (resD 12 [x,y]) w):=by
 have HR:Hid (resD 12 [x,y]=resD 12 [x,y]):=Lib.hid rfl
 generalize hR:resD 12 [x,y]=R at HR ⊢
 exact bz3
theorem res5_13(x y:Int)(b off cap:Nat)(w:World)(c0:w.cell? ⟨b,off,none⟩=some (.int .i64 x))(c1:w.cell? ⟨b,off+1,none⟩=some (.int .i64 y))(hX:1≤x∧1≤y):Calls Tryz.prog 98 #[.int .i64 13,.slice (some ⟨b,off,none⟩) 2 cap] w (Res5P (resD 13 [x,y]) w):=by
 have HR:Hid (resD 13 [x,y]=resD 13 [x,y]):=Lib.hid rfl
 generalize hR:resD 13 [x,y]=R at HR ⊢
 exact bz3
theorem res5_14(x y:Int)(b off cap:Nat)(w:World)(c0:w.cell? ⟨b,off,none⟩=some (.int .i64 x))(c1:w.cell? ⟨b,off+1,none⟩=some (.int .i64 y))(hX:1≤x∧1≤y):Calls Tryz.prog 98 #[.int .i64 14,.slice (some ⟨b,off,none⟩) 2 cap] w (Res5P (resD 14 [x,y]) w):=by
 have HR:Hid (resD 14 [x,y]=resD 14 [x,y]):=Lib.hid rfl
 generalize hR:resD 14 [x,y]=R at HR ⊢
 exact bz3
theorem res5_15(x y:Int)(b off cap:Nat)(w:World)(c0:w.cell? ⟨b,off,none⟩=some (.int .i64 x))(c1:w.cell? ⟨b,off+1,none⟩=some (.int .i64 y))(hX:1≤x∧1≤y):Calls Tryz.prog 98 #[.int .i64 15,.slice (some ⟨b,off,none⟩) 2 cap] w (Res5P (resD 15 [x,y]) w):=by
 have HR:Hid (resD 15 [x,y]=resD 15 [x,y]):=Lib.hid rfl
 generalize hR:resD 15 [x,y]=R at HR ⊢
 exact bz3
theorem res5_16(x y:Int)(b off cap:Nat)(w:World)(c0:w.cell? ⟨b,off,none⟩=some (.int .i64 x))(c1:w.cell? ⟨b,off+1,none⟩=some (.int .i64 y))(hX:1≤x∧1≤y):Calls Tryz.prog 98 #[.int .i64 16,.slice (some ⟨b,off,none⟩) 2 cap] w (Res5P (resD 16 [x,y]) w):=by
 have HR:Hid (resD 16 [x,y]=resD 16 [x,y]):=Lib.hid rfl
 generalize hR:resD 16 [x,y]=R at HR ⊢
 exact bz3
theorem res5_17(x y:Int)(b off cap:Nat)(w:World)(c0:w.cell? ⟨b,off,none⟩=some (.int .i64 x))(c1:w.cell? ⟨b,off+1,none⟩=some (.int .i64 y))(hX:1≤x∧1≤y):Calls Tryz.prog 98 #[.int .i64 17,.slice (some ⟨b,off,none⟩) 2 cap] w (Res5P (resD 17 [x,y]) w):=by
 have HR:Hid (resD 17 [x,y]=resD 17 [x,y]):=Lib.hid rfl
 generalize hR:resD 17 [x,y]=R at HR ⊢
 exact bz15
theorem res5_18(x y:Int)(b off cap:Nat)(w:World)(c0:w.cell? ⟨b,off,none⟩=some (.int .i64 x))(c1:w.cell? ⟨b,off+1,none⟩=some (.int .i64 y))(hX:1≤x∧1≤y):Calls Tryz.prog 98 #[.int .i64 18,.slice (some ⟨b,off,none⟩) 2 cap] w (Res5P (resD 18 [x,y]) w):=by
 have HR:Hid (resD 18 [x,y]=resD 18 [x,y]):=Lib.hid rfl
 generalize hR:resD 18 [x,y]=R at HR ⊢
 exact bz15
theorem res5_19(x y:Int)(b off cap:Nat)(w:World)(c0:w.cell? ⟨b,off,none⟩=some (.int .i64 x))(c1:w.cell? ⟨b,off+1,none⟩=some (.int .i64 y))(hX:1≤x∧1≤y):Calls Tryz.prog 98 #[.int .i64 19,.slice (some ⟨b,off,none⟩) 2 cap] w (Res5P (resD 19 [x,y]) w):=by
 have HR:Hid (resD 19 [x,y]=resD 19 [x,y]):=Lib.hid rfl
 generalize hR:resD 19 [x,y]=R at HR ⊢
 exact bz3
theorem res5_20(x y:Int)(b off cap:Nat)(w:World)(c0:w.cell? ⟨b,off,none⟩=some (.int .i64 x))(c1:w.cell? ⟨b,off+1,none⟩=some (.int .i64 y))(hX:1≤x∧1≤y):Calls Tryz.prog 98 #[.int .i64 20,.slice (some ⟨b,off,none⟩) 2 cap] w (Res5P (resD 20 [x,y]) w):=by
 have HR:Hid (resD 20 [x,y]=resD 20 [x,y]):=Lib.hid rfl
 generalize hR:resD 20 [x,y]=R at HR ⊢
 exact bz3
theorem res5_21(x y z:Int)(b off cap:Nat)(w:World)(c0:w.cell? ⟨b,off,none⟩=some (.int .i64 x))(c1:w.cell? ⟨b,off+1,none⟩=some (.int .i64 y))(c2:w.cell? ⟨b,off+2,none⟩=some (.int .i64 z))(hX:1≤x∧1≤y∧1≤z):Calls Tryz.prog 98 #[.int .i64 21,.slice (some ⟨b,off,none⟩) 3 cap] w (Res5P (resD 21 [x,y,z]) w):=by
 have HR:Hid (resD 21 [x,y,z]=resD 21 [x,y,z]):=Lib.hid rfl
 generalize hR:resD 21 [x,y,z]=R at HR ⊢
 exact bz15
end Go.Proofs.YtaghhncnicbedaaGreatDoor
namespace Go.Proofs.YtaghhncnicbedaaGreatDoor
open Go.RowKit Go.Shelf
attribute [local go_sem] Oper.semAt_some
def backs(n k:Nat):List (Fin n):=(List.finRange n).reverse.take k
theorem backs_succ(n k:Nat)(i:Fin n)(hk:k<n)(hi:n-1-k=i.1):backs n (k+1)=backs n k++[i]:=by
 have hl:k<(List.finRange n).reverse.length:=by simpa using hk
 unfold backs
 rw [List.take_succ_eq_append_getElem hl]
 congr 2
 apply Fin.ext
 rw [List.getElem_reverse]
 simp
 omega
theorem backs_length(n k:Nat)(hk:k≤n):(backs n k).length=k:=by simp [backs,hk]
theorem backs_mem{n k:Nat}(i:Fin n)(hk:n≤i.1+k):i∈backs n k:=by
 unfold backs
 have hl:n-1-i.1<(List.finRange n).reverse.length:=by simp;omega
 have he:(List.finRange n).reverse[n-1-i.1]=i:=by
  apply Fin.ext
  rw [List.getElem_reverse]
  simp
  omega
 rw [List.mem_take_iff_getElem]
 exact⟨n-1-i.1,by simp;omega,he⟩
abbrev BRow:=List (ByteArray × Int)
def BRow.el(x:BRow)(i:Nat):Value:=.agg #[.string (bdN x i),.int .i64 (bdD x i)]
def BRow.Lies(x:BRow)(n₀:Nat)(W:World)(v:Value)(n:Nat):Prop:=
 n≤1000∧∃a cap,v= .slice a n cap∧(n=0∨∃b off,a=some ⟨b,off,none⟩∧b<n₀∧∀i,i<n→W.cell? ⟨b,off+i*2,none⟩=some (.string (bdN x i))∧W.cell? ⟨b,off+i*2+1,none⟩=some (.int .i64 (bdD x i)))
theorem BRow.Lies.below{x:BRow}{n₀ n:Nat}{W W':World}{v:Value}(h:BRow.Lies x n₀ W v n)(hb:Below n₀ W W'):BRow.Lies x n₀ W' v n:=by
 obtain⟨h0,a,cap,hv,h1⟩:=h
 refine⟨h0,a,cap,hv,h1.imp id ?_⟩
 rintro⟨b,off,ha,hlt,hc⟩
 refine⟨b,off,ha,hlt,fun i hi=>?_⟩
 rw [hb.cell (p:=⟨b,off+i*2,none⟩) hlt,hb.cell (p:=⟨b,off+i*2+1,none⟩) hlt]
 exact hc i hi
theorem BindAt.lies{W:World}{v:Value}{l:List (ByteArray × Int)}(h:BindAt W v l):BRow.Lies l W.heap.size W v l.length:=h
theorem backB1_in(F:Fence)(n:Nat)(hf:F.fn 232)(hro:F.round=none)(hn:1≤n)(l Bs n₀ len:Nat)(x:BRow)(v:Value)(J Jx:List (Fin len)→World→Prop)
 (hY:∀pre (i:Fin len) W,J pre W→pre.length<len→YieldAt F (n-1) Tryz.prog l #[.int .i64 ((i.1:Nat):Int),x.el i.1] W fun e W'=>
  (e= .returned (.bool true)∧J (pre++[i]) W'∧Below n₀ W W')∨(e= .returned (.bool false)∧Jx (pre++[i]) W'))
 (W:World) (hBs:W.cell? ⟨Bs,0,none⟩=some v) (hBl:Bs<n₀) (hL:x.Lies n₀ W v len) (h0:J [] W) :
 CallsIn F n Tryz.prog 232 #[.func (.yield l) #[] #[],.pointer (some ⟨Bs,0,none⟩)] W fun e W'=>(∃v,e= .returned v)∧
  ((∃ys,ys=backs len len∧J ys W')∨(∃pre,(∃k,k<len∧pre=backs len (k+1))∧Jx pre W')):=by
 have HL:=Lib.hid hL
 obtain⟨h1000,a,cap,rfl,-⟩:=hL
 refine callsIn_of_wp Tryz.func232 rfl hf ?_ hro
 simp only [Tryz.ntmps232,List.size_toArray,List.length_cons,List.length_nil,Nat.reduceAdd,Nat.reduceSub,Array.replicate_succ,Array.replicate_zero,List.push_toArray,List.append_toArray,List.nil_append,List.cons_append]
 gi_wp2
 gi_loopw [3] (fun vi wr=>∃k:Nat,k≤len∧vi= .int .i64 ((len:Int)-1-k)∧J (backs len k) wr∧Below n₀ W wr) (fun vi _=>(intOf vi+1).toNat)
 case atStart=>exact⟨0,Nat.zero_le _,by simp,h0,Below.refl _ _⟩
 case round=>
  obtain⟨k,hk,rfl,hJs,hnx⟩:=hrel
  by_cases hlt:k<len
  ·have hcs:=(hnx.cell (p:=⟨Bs,0,none⟩) hBl).trans hBs
   have hLr:=HL.out.below hnx
   obtain⟨-,a',cap',hv,hx⟩:=hLr
   simp only [Value.slice.injEq,true_and]at hv
   obtain⟨rfl,rfl⟩:=hv
   rcases hx with hx|⟨b,off,rfl,hb,hx⟩
   ·omega
   obtain⟨i,hi⟩:∃i:Nat,(len:Int)-1-k=i:=⟨len-1-k,by omega⟩
   have hii:i<len:=by omega
   have hik:len-1-k=i:=by omega
   obtain⟨q0,q1⟩:=hx i hii
   obtain⟨fn,tmps,assign,body,hy,hR⟩:=hY _ ⟨i,hii⟩ wr hJs (by rw [backs_length _ _ hk];exact hlt)
   simp only at hy
   unfold BRow.el at hy
   unfold bdN at hy q0
   unfold bdD at hy q1
   generalize(x.getD i (ByteArray.empty,0)).1=z0 at *
   generalize(x.getD i (ByteArray.empty,0)).2=z1 at *
   have d1:(i:Int)<(len:Int):=by omega
   have d0:(0:Int)≤(i:Int):=by omega
   have hlen1:(len:Int)≤1000:=by omega
   rw [hi]
   have HI:=Lib.hid hi
   have HIK:=Lib.hid hik
   clear hx hi hik hBs h0
   gi_wp2
   refine hR.mono ?_
   rintro e W3 (⟨rfl,hJ3,hk3⟩|⟨rfl,hJx3⟩)
   ·gi_wp2
    go_roundw
    case rel=>exact⟨k+1,by omega,by have:=HI.out;first|(congr 1;omega)|(simp;omega),by rw [backs_succ _ _ ⟨i,hii⟩ hlt HIK.out];exact hJ3,hnx.trans hk3⟩
    case measure=>first|(simp [intOf];done)|(simp [intOf];omega)
   ·gi_wp2
    refine bodyPost_ret (results_none rfl _ _ _) rfl ?_
    exact⟨⟨_,rfl⟩,.inr ⟨_,⟨k,hlt,by rw [backs_succ _ _ ⟨i,hii⟩ hlt HIK.out]⟩,hJx3⟩⟩
  ·obtain rfl:k=len:=by omega
   have hz:(k:Int)-1-k= -1:=by omega
   rw [hz]
   clear hz
   gi_wp2
   go_end0
   exact⟨⟨_,rfl⟩,.inl ⟨_,rfl,hJs⟩⟩
theorem backB_in(F:Fence)(n:Nat)(hf:F.fn 222)(hro:F.round=none)(a:Option Addr)(len cap:Nat)(w:World) :
 CallsIn F n Tryz.prog 222 #[.slice a len cap] w fun e w'=>e= .returned (.func (.func 232) #[] #[.pointer (some ⟨w.heap.size,0,none⟩)])∧w'=w.alloc (.cells #[.slice a len cap] 87):=by
 refine callsIn_of_wp Tryz.func222 rfl hf ?_ hro
 simp only [Tryz.ntmps222,List.size_toArray,List.length_cons,List.length_nil,Nat.reduceAdd,Nat.reduceSub,Array.replicate_succ,Array.replicate_zero,List.push_toArray,List.append_toArray,List.nil_append,List.cons_append]
 gi_wp2
 go_ret
 exact⟨rfl,rfl⟩
theorem backB_stops(F:Fence)(n:Nat)(hf:F.fn 232)(hro:F.round=none)(hn:1≤n)(Bs n₀:Nat)(v:Value)(x:BRow)(len:Nat)(w:World)(hBs:Bs<n₀)(hn₀:n₀≤w.heap.size)
 (hc:w.cell? ⟨Bs,0,none⟩=some v) (hL:x.Lies n₀ w v len) :
 SeqStopsK F n Tryz.prog 232 #[.pointer (some ⟨Bs,0,none⟩)] (fun i:Fin len=>#[Value.int .i64 ((i.1:Nat):Int),x.el i.1]) (Below n₀) (fun ys=>ys=backs len len)
  (fun pre=>∃k,k<len∧pre=backs len (k+1)) len w:=fun l J Jx W hW _ _ hY h0=>
 backB1_in F n hf hro hn l Bs n₀ len x v J Jx hY W ((hW.cell (p:=⟨Bs,0,none⟩) (by show Bs<w.heap.size;omega)).trans hc) hBs (hL.below (hW.mono hn₀)) h0
end Go.Proofs.YtaghhncnicbedaaGreatDoor
namespace Go.Proofs.YtaghhncnicbedaaGreatDoor
open Go.RowKit Go.Shelf
attribute [local go_sem] Oper.semAt_some
theorem toList_inj{a b:ByteArray}(h:a.toList=b.toList):a=b:=by
 rw [ByteArray.toList_eq,ByteArray.toList_eq]at h
 exact ByteArray.ext (Array.ext' h)
theorem lastN_some{α:Type}(env:List (ByteArray × α))(s:ByteArray)(i:Nat)(d:ByteArray × α)(hi:i<env.length)(he:(env.getD i d).1=s)(hl:∀j,i<j→j<env.length→(env.getD j d).1≠s):lastN env s=some (env.getD i d).2:=by
 have h1:env=env.take i++env.getD i d::env.drop (i+1):=by
  rw [List.getD_eq_getElem?_getD,List.getElem?_eq_getElem hi,Option.getD_some,List.getElem_cons_drop,List.take_append_drop]
 have h2:(env.drop (i+1)).reverse.find? (fun p=>decide (p.1=s))=none:=by
  rw [List.find?_eq_none]
  intro x hx
  obtain⟨k,hk,rfl⟩:=List.getElem_of_mem (List.mem_reverse.1 hx)
  have hk2:i+1+k<env.length:=by rw [List.length_drop]at hk;omega
  have:=hl (i+1+k) (by omega) hk2
  rw [List.getD_eq_getElem?_getD,List.getElem?_eq_getElem hk2,Option.getD_some]at this
  rw [List.getElem_drop]
  simpa using this
 unfold lastN
 generalize hz:env.getD i d=z at *
 rw [h1,List.reverse_append,List.reverse_cons,List.append_assoc,List.find?_append,h2]
 simp [he]
theorem lastN_none{α:Type}(env:List (ByteArray × α))(s:ByteArray)(d:ByteArray × α)(hl:∀j,j<env.length→(env.getD j d).1≠s):lastN env s=none:=by
 unfold lastN
 rw [Option.map_eq_none_iff,List.find?_eq_none]
 intro x hx
 obtain⟨k,hk,rfl⟩:=List.getElem_of_mem (List.mem_reverse.1 hx)
 have:=hl k hk
 rw [List.getD_eq_getElem?_getD,List.getElem?_eq_getElem hk,Option.getD_some]at this
 simpa using this
def lookV(env:List (ByteArray × Int))(s:ByteArray):Int × Bool:=if inpD s.toList≠0 then(inpD s.toList,true)else match lastN env s with|some m=>(m,true)|none=>(0,false)
theorem lookV_infer(env:List (ByteArray × Int))(s:ByteArray):inferN env s=if(lookV env s).2=true then((lookV env s).1,0)else(0,5):=by
 unfold inferN lookV
 by_cases h:inpD s.toList≠0
 ·rw [if_pos h,if_pos h];simp
 ·rw [if_neg h,if_neg h]
  cases lastN env s<;>simp
def LkP(env:List (ByteArray × Int))(s:ByteArray)(w:World)(e:Ending)(w':World):Prop:=e= .returned (.tuple #[.int .i64 (lookV env s).1,.bool (lookV env s).2])∧w.Grows w'
structure LkMem(B:Nat)(s:ByteArray)(m:Int)(q:Bool)(W:World):Prop where
 nm:W.heap[B]? =some (.cells #[.string s] 9 (0,0))
 res:W.heap[B+1]? =some (.cells #[.int .i64 m] 3 (0,0))
 ok:W.heap[B+2]? =some (.cells #[.bool q] 4 (0,0))
 size:B+4≤W.heap.size
theorem LkMem.own{B:Nat}{s:ByteArray}{m:Int}{q:Bool}{X Y:World}{row:Option Nat}(h:LkMem B s m q X)(hg:X.grownBy Y row)(hr:∀r,row=some r→∃o:Obj,X.heap[r]? =some o∧o.isCells=false):LkMem B s m q Y:=
 ⟨(grownBy_keeps_cells hg hr h.nm rfl).trans h.nm,(grownBy_keeps_cells hg hr h.res rfl).trans h.res,(grownBy_keeps_cells hg hr h.ok rfl).trans h.ok,Nat.le_trans h.size hg.size⟩
theorem LkMem.alloc{B:Nat}{s:ByteArray}{m:Int}{q:Bool}{X:World}(h:LkMem B s m q X)(o:Obj):LkMem B s m q (X.alloc o):=h.own (World.grownBy_alloc X o none) (fun r e=>by cases e)
def LkBody(B:Nat)(s:ByteArray)(L:List (ByteArray × Int))(w:World)(c:Code)(pre:List (Fin L.length))(W:World):Prop:=
 (c= .ret∧∃ini i,pre=ini++[i]∧(∀j∈ini,bdN L j.1≠s)∧bdN L i.1=s∧LkMem B s (bdD L i.1) true W)∧Below w.heap.size w W
theorem lookup_in(s:ByteArray)(L:List (ByteArray × Int))(v:Value)(w:World)(h:BindAt w v L)(hs:inpD s.toList≠0):Calls Tryz.prog 205 #[.string s,v] w (LkP L s w):=by
 obtain⟨-,a,cap,rfl,-⟩:=h
 have HF:Hid (lookV L s=(inpD s.toList,true)):=Lib.hid (by unfold lookV;rw [if_pos hs])
 have HI:Hid (∀w,Calls Tryz.prog 89 #[.string s] w fun e w'=>e= .returned (.tuple #[.int .i64 (inpD s.toList),.bool true])∧w=w'):=Lib.hid (fun w=>(Input2_any s w).mono (by rintro e w' ⟨rfl,rfl⟩;rw [decide_eq_true hs];exact⟨rfl,rfl⟩))
 clear hs
 generalize inpD s.toList=D at *
 go_enter Tryz.func205,Tryz.ntmps205
 go_wp2_with (go_at_call 89;refine(HI.out _).mono ?_;rintro e w' ⟨rfl,rfl⟩)
 go_returns
 unfold LkP
 rw [HF.out]
 exact⟨rfl,.of_below belB⟩
theorem lookup_no(s:ByteArray)(L:List (ByteArray × Int))(v:Value)(w:World)(h:BindAt w v L)(hs:inpD s.toList=0):Calls Tryz.prog 205 #[.string s,v] w (LkP L s w):=by
 have HV:=Lib.hid h
 obtain⟨-,a,cap,rfl,-⟩:=h
 have HS:Hid (lookV L s=match lastN L s with|some m=>(m,true)|none=>(0,false)):=Lib.hid (by unfold lookV;rw [if_neg (by omega)])
 have HI:Hid (∀w,Calls Tryz.prog 89 #[.string s] w fun e w'=>e= .returned (.tuple #[.int .i64 0,.bool false])∧w=w'):=Lib.hid (fun w=>(Input2_any s w).mono (by rintro e w' ⟨rfl,rfl⟩;rw [hs];exact⟨rfl,rfl⟩))
 clear hs
 refine(callsIn_wide (n:=6)).1 ?_
 refine callsIn_of_wp_marks Tryz.func205 rfl trivial ?_ rfl
 simp only [Tryz.ntmps205,List.size_toArray,List.length_cons,List.length_nil,Nat.reduceAdd,Nat.reduceSub,Array.replicate_succ,Array.replicate_zero,List.push_toArray,List.append_toArray,List.nil_append,List.cons_append]
 gi_wp2_with (first
  |(refine⟨trivial, ?_⟩;gi_at_call 89;refine(callsIn_wide.2 (HI.out _)).mono ?_;rintro e w' ⟨rfl,rfl⟩)
  |(refine⟨trivial, ?_⟩;gi_at_call 222;refine(backB_in Fence.wide _ trivial rfl _ _ _ _).mono ?_;rintro e w' ⟨rfl,rfl⟩))
 obtain⟨W0,hW0⟩:∃W0,(((w.alloc (.cells #[.string s] 9)).alloc (.cells #[.int .i64 0] 3)).alloc (.cells #[.bool false] 4)).alloc (.cells #[.slice a L.length cap] 87)=W0:=⟨_,rfl⟩
 have hsz:W0.heap.size=w.heap.size+4:=by rw [←hW0];simp
 have hB0:Below w.heap.size w W0:=by rw [←hW0];(exact belB)
 have hm0:LkMem w.heap.size s 0 false W0:=by rw [←hW0];exact⟨by(repeat(first|(rw [heap_alloc_if,if_pos (by simp;done)];done)|(rw [heap_alloc_if,if_neg (by simp;omega)])|(rw [heap_alloc_if,if_neg (by simp;done)]))),by(repeat(first|(rw [heap_alloc_if,if_pos (by simp;done)];done)|(rw [heap_alloc_if,if_neg (by simp;omega)])|(rw [heap_alloc_if,if_neg (by simp;done)]))),by(repeat(first|(rw [heap_alloc_if,if_pos (by simp;done)];done)|(rw [heap_alloc_if,if_neg (by simp;omega)])|(rw [heap_alloc_if,if_neg (by simp;done)]))),by simp⟩
 have hbk:W0.cell? ⟨w.heap.size+3,0,none⟩=some (.slice a L.length cap):=by rw [←hW0,World.cell?_alloc_at _ _ _ _ (by simp)];rfl
 rw [hW0]
 clear hW0
 have HB0:=Lib.hid hB0
 have HM0:=Lib.hid hm0
 have HVW:=Lib.hid (HV.out.below (Nat.le_refl _) hB0)
 refine wpIn_rangeFunc_ownH (F:=Fence.wide) rfl (by omega) (gf:=232) (lb:=#[.pointer (some ⟨w.heap.size+3,0,none⟩)]) rfl trivial (enters_of Tryz.func232 (by kernel_rfl) rfl)
  (backB_stops Fence.wide 5 trivial rfl (by omega) (w.heap.size+3) W0.heap.size (.slice a L.length cap) L L.length W0 (by omega) (Nat.le_refl _) hbk HVW.out.lies) belowK_t (belowK_b (Nat.le_refl _)) (Below.refl _ _) (fun _=>rfl)
  (fun pre W=>(LkMem w.heap.size s 0 false W∧∀j∈pre,bdN L j.1≠s)∧Below w.heap.size w W)
  (LkBody w.heap.size s L w)
  (OwnFrom.and (Own.from (fun s A B row hs hg hr=>⟨hs.1.own hg hr,hs.2⟩) _) (ownFrom_below (Nat.le_refl _) (by omega)))
  (fun c=>OwnFrom.and (Own.from (fun s A B row hs hg hr=>by obtain⟨h1,ini,i,h2,h3,h5,h4⟩:=hs;exact⟨h1,ini,i,h2,h3,h5,h4.own hg hr⟩) _) (ownFrom_below (Nat.le_refl _) (by omega)))
  ⟨⟨hm0,fun j hj=>by cases hj⟩,hB0⟩
  (fun i a' W=>∃Bx,w.heap.size+3<Bx∧W.heap[Bx]? =some (.cells #[.string (bdN L i.1),.int .i64 (bdD L i.1)] 96 (0,0))∧
   a'= {tmps:=#[.string s,.slice a L.length cap,.pointer (some ⟨w.heap.size,0,none⟩),undef,.pointer (some ⟨w.heap.size+1,0,none⟩),.pointer (some ⟨w.heap.size+1+1,0,none⟩),.int .i64 0,.bool false,undef,.pointer (some ⟨Bx,0,none⟩),.tuple #[.int .i64 0,.bool false],.string s,.tuple #[.int .i64 0,.bool false],.int .i64 0,.bool false,.bool false,undef,.slice a L.length cap,.func (.func 232) #[] #[.pointer (some ⟨w.heap.size+1+1+1,0,none⟩)],.int .i64 ((i.1:Nat):Int),BRow.el L i.1,undef,undef,undef,undef,undef,undef],defers:=[]})
  (fun i a' _ X Y row hs hg hr=>by obtain⟨Bx,h1,h2,h3⟩:=hs;exact⟨Bx,h1,(grownBy_keeps_cells hg (fun r e=>(hr r e).2) h2 rfl).trans h2,h3⟩)
  ?assign ?body ?done ?stop
 case assign=>
  rintro l pre i W K ⟨⟨hm,hpre⟩,hB1⟩ hK
  unfold BRow.el
  gi_wp2
  have hs1:=hm.size
  refine hK _ _ ((KeepsOthers.alloc _ _).from _) ((Below.refl _ W).alloc (by omega) _) ⟨⟨hm.alloc _,hpre⟩,hB1.alloc hB1.size _⟩ ⟨W.heap.size,by omega,heap_alloc_new _ _,rfl⟩
 case body=>
  rintro l pre i a' W hl ⟨r,hr⟩ ⟨⟨hm,hpre⟩,hB1⟩ ⟨Bx,hBx,hbx,rfl⟩ hlt
  have HM:=Lib.hid hm
  have HB1:=Lib.hid hB1
  have HP:=Lib.hid hpre
  have q0:W.cell? ⟨Bx,0,none⟩=some (.string (bdN L i.1)):=cell_of_row _ _ _ _ _ _ hbx
  have q1:W.cell? ⟨Bx,1,none⟩=some (.int .i64 (bdD L i.1)):=cell_of_row _ _ _ _ _ _ hbx
  have qn:W.cell? ⟨w.heap.size,0,none⟩=some (.string s):=cell_of_row _ _ _ _ _ _ hm.nm
  have r0:W.cell? ⟨w.heap.size+1,0,none⟩=some (.int .i64 0):=cell_of_row _ _ _ _ _ _ hm.res
  have rk:W.cell? ⟨w.heap.size+1+1,0,none⟩=some (.bool false):=cell_of_row _ _ _ _ _ _ hm.ok
  have rf:∀j,W.frozen? ⟨w.heap.size+1,j,none⟩=false:=fun j=>Joins.unfrozen_of_block hm.res j
  have rg:∀j,W.frozen? ⟨w.heap.size+1+1,j,none⟩=false:=fun j=>Joins.unfrozen_of_block hm.ok j
  unfold BRow.el
  generalize hN:bdN L i.1=nk at *
  generalize hD:bdD L i.1=dk at *
  have HN:=Lib.hid hN
  have HD:=Lib.hid hD
  clear hm hpre hB1 hbx hN hD
  by_cases he:nk=s
  ·have HE:=Lib.hid he
   have he2:(nk.toList==s.toList)=true:=by rw [he];simp
   clear he
   gi_wp2
   have hs1:=HM.out.size
   have hh:∀k,k≠w.heap.size+1→k≠w.heap.size+2→((W.setCell ⟨w.heap.size+1,0,none⟩ (.int .i64 dk)).setCell ⟨w.heap.size+2,0,none⟩ (.bool true)).heap[k]? =W.heap[k]?:=fun k hk hk2=>(Below.heap_setCell _ _ _ _ hk2).trans (Below.heap_setCell _ _ _ _ hk)
   have key:LkMem w.heap.size s dk true ((W.setCell ⟨w.heap.size+1,0,none⟩ (.int .i64 dk)).setCell ⟨w.heap.size+2,0,none⟩ (.bool true)):=by
    exact bz24
   have kf:KeepsFrom W0.heap.size W ((W.setCell ⟨w.heap.size+1,0,none⟩ (.int .i64 dk)).setCell ⟨w.heap.size+2,0,none⟩ (.bool true)):=⟨by simp,fun k o hBk hk _=>by
    rw [hh _ (by omega) (by omega)];exact hk⟩
   have bl:Below w.heap.size w ((W.setCell ⟨w.heap.size+1,0,none⟩ (.int .i64 dk)).setCell ⟨w.heap.size+2,0,none⟩ (.bool true)):=
    (HB1.out.setCell (by show w.heap.size≤w.heap.size+1;omega) _).setCell (by show w.heap.size≤w.heap.size+2;omega) _
   exact⟨kf,⟨rfl,pre,i,rfl,HP.out,by rw [HN.out];exact HE.out,by rw [HD.out];exact key⟩,bl⟩
  ·have HE:=Lib.hid he
   have he2:(nk.toList==s.toList)=false:=by
    rw [beq_eq_false_iff_ne];exact fun h=>he (toList_inj h)
   clear he
   gi_wp2
   refine⟨KeepsFrom.refl _ _,Below.refl _ _,⟨⟨HM.out,fun j hj=>?_⟩,HB1.out⟩⟩
   rcases List.mem_append.1 hj with h1|h1
   ·exact HP.out j h1
   ·obtain rfl:j=i:=by simpa using h1
    rw [HN.out];exact HE.out
 case done=>
  rintro D xs W hD rfl ⟨⟨hm,hpre⟩,hB1⟩ hK
  have HM:=Lib.hid hm
  have HB1:=Lib.hid hB1
  have HP:=Lib.hid hpre
  have r0:W.cell? ⟨w.heap.size+1,0,none⟩=some (.int .i64 0):=cell_of_row _ _ _ _ _ _ hm.res
  have rk:W.cell? ⟨w.heap.size+1+1,0,none⟩=some (.bool false):=cell_of_row _ _ _ _ _ _ hm.ok
  have rf:∀j,W.frozen? ⟨w.heap.size+1,j,none⟩=false:=fun j=>Joins.unfrozen_of_block hm.res j
  have rg:∀j,W.frozen? ⟨w.heap.size+1+1,j,none⟩=false:=fun j=>Joins.unfrozen_of_block hm.ok j
  clear hm hB1 hpre
  gi_wp2
  have hDW:=(Array.getElem?_eq_some_iff.1 hK).1
  have hs1:=HM.out.size
  have hh:∀k,k≠w.heap.size+1→k≠w.heap.size+2→((W.setCell ⟨w.heap.size+1,0,none⟩ (.int .i64 0)).setCell ⟨w.heap.size+2,0,none⟩ (.bool false)).heap[k]? =W.heap[k]?:=fun k hk hk2=>(Below.heap_setCell _ _ _ _ hk2).trans (Below.heap_setCell _ _ _ _ hk)
  have m2:LkMem w.heap.size s 0 false ((W.setCell ⟨w.heap.size+1,0,none⟩ (.int .i64 0)).setCell ⟨w.heap.size+2,0,none⟩ (.bool false)):=by
   exact bz24
  have bl:Below w.heap.size w ((W.setCell ⟨w.heap.size+1,0,none⟩ (.int .i64 0)).setCell ⟨w.heap.size+2,0,none⟩ (.bool false)):=
   (HB1.out.setCell (by show w.heap.size≤w.heap.size+1;omega) _).setCell (by show w.heap.size≤w.heap.size+2;omega) _
  have hK':((W.setCell ⟨w.heap.size+1,0,none⟩ (.int .i64 0)).setCell ⟨w.heap.size+2,0,none⟩ (.bool false)).heap[D]? =some (.deferred (some [])):=by rw [hh _ (by omega) (by omega)];exact hK
  refine⟨by simp,.inl ⟨_,_,rfl,run_takeDeferred hK', ?_⟩⟩
  have m3:=m2.own (grownBy_putObj' _ D (.deferred none)) (fun r e=>by cases e;exact⟨_,hK',rfl⟩)
  have bl3:=bl.trans (belowK_b (w:=w) (Nat.le_refl _) _ D _ (.deferred none) (by omega) hK' rfl rfl)
  show LeavesInM Fence.wide 6 Tryz.prog Tryz.f205 _ _ _ _ (((W.setCell ⟨w.heap.size+1,0,none⟩ (.int .i64 0)).setCell ⟨w.heap.size+2,0,none⟩ (.bool false)).putObj D (.deferred none))
  generalize(((W.setCell ⟨w.heap.size+1,0,none⟩ (.int .i64 0)).setCell ⟨w.heap.size+2,0,none⟩ (.bool false)).putObj D (.deferred none))=W9 at m3 bl3 ⊢
  have e0:W9.cell? ⟨w.heap.size+1,0,none⟩=some (.int .i64 0):=cell_of_row _ _ _ _ _ _ m3.res
  have ek:W9.cell? ⟨w.heap.size+1+1,0,none⟩=some (.bool false):=cell_of_row _ _ _ _ _ _ m3.ok
  have hn:lastN L s=none:=lastN_none L s (ByteArray.empty,0) fun j hj=>HP.out ⟨j,hj⟩ (backs_mem _ (by simp))
  refine⟨.tuple #[.int .i64 0,.bool false], ?_, ?_,.of_below bl3⟩
  ·simp [results,Tryz.f205,go_sem,e0,ek]
  ·rw [HS.out,hn]
 case stop=>
  rintro D c pre W hD ⟨k,hk,rfl⟩ ⟨⟨rfl,ini,i,hin,hini,hsi,hm1⟩,hB1⟩ hK
  have hm:=hm1.own (grownBy_putObj' W D (.deferred none)) (fun r e=>by cases e;exact⟨_,hK,rfl⟩)
  have bl3:=hB1.trans (belowK_b (w:=w) (Nat.le_refl _) W D _ (.deferred none) (by omega) hK rfl rfl)
  gi_wp2
  refine⟨by simp,.inl ⟨_,_,rfl,run_takeDeferred hK, ?_⟩⟩
  generalize W.putObj D (.deferred none)=W9 at hm bl3 ⊢
  have e0:W9.cell? ⟨w.heap.size+1,0,none⟩=some (.int .i64 (bdD L i.1)):=cell_of_row _ _ _ _ _ _ hm.res
  have ek:W9.cell? ⟨w.heap.size+1+1,0,none⟩=some (.bool true):=cell_of_row _ _ _ _ _ _ hm.ok
  have hii:L.length-1-k<L.length:=by omega
  rw [backs_succ _ _ ⟨L.length-1-k,hii⟩ hk rfl]at hin
  obtain⟨h1,h2⟩:=List.append_inj' hin rfl
  subst h1
  obtain rfl:(⟨L.length-1-k,hii⟩:Fin L.length)=i:=by simpa using h2
  have hn:lastN L s=some (bdD L (L.length-1-k)):=lastN_some L s (L.length-1-k) (ByteArray.empty,0) hii hsi fun j hj hjl=>hini ⟨j,hjl⟩ (backs_mem _ (by simp;omega))
  refine⟨.tuple #[.int .i64 (bdD L (L.length-1-k)),.bool true], ?_, ?_,.of_below bl3⟩
  ·simp [results,Tryz.f205,go_sem,e0,ek]
  ·rw [HS.out,hn]
theorem lookup_any(s:ByteArray)(L:List (ByteArray × Int))(v:Value)(w:World)(h:BindAt w v L):Calls Tryz.prog 205 #[.string s,v] w (LkP L s w):=by
 by_cases hs:inpD s.toList=0
 ·exact lookup_no s L v w h hs
 ·exact lookup_in s L v w h hs
end Go.Proofs.YtaghhncnicbedaaGreatDoor
namespace Go.Proofs.YtaghhncnicbedaaGreatDoor
open Go.RowKit

theorem index_byte:∀(l:List UInt8) (c:UInt8),Lib.index l [c]=Lib.indexByte l c
 | [],c=>by simp [Lib.index,Lib.indexByte]
 |b::l,c=>by
  have ih:=index_byte l c
  have hp:([c]:List UInt8).isPrefixOf (b::l)=(b==c):=by
   simp only [List.isPrefixOf,Bool.and_true]
   exact BEq.comm
  unfold Lib.index Lib.indexByte
  rw [hp,ih]
def cutA(t:ByteArray):ByteArray:=⟨(Lib.cut t.data.toList [46]).1.toArray⟩
def cutB(t:ByteArray):ByteArray:=⟨(Lib.cut t.data.toList [46]).2.1.toArray⟩
def cutP(t:ByteArray):Bool:=(Lib.cut t.data.toList [46]).2.2
theorem cut_some{t:ByteArray}{o:Nat}(h:Lib.indexByte t.data.toList 46=o)(ho:o<t.size):cutA t=t.extract 0 o∧cutB t=t.extract (o+1) t.size∧cutP t=true:=by
 have e:Lib.cut t.data.toList [46]=(t.data.toList.take o,t.data.toList.drop (o+1),true):=by
  unfold Lib.cut
  rw [index_byte,h,if_pos (by omega)]
  simp
 unfold cutA cutB cutP
 rw [e]
 refine⟨?_, ?_,rfl⟩
 ·apply ByteArray.ext
  rw [ByteArray.data_extract]
  apply Array.ext'
  rw [Array.toList_extract]
  simp [List.extract]
 ·apply ByteArray.ext
  rw [ByteArray.data_extract]
  apply Array.ext'
  rw [Array.toList_extract]
  simp only [List.extract]
  rw [List.take_of_length_le]
  rw [List.length_drop,Array.length_toList]
  exact Nat.le_refl _
theorem cut_none{t:ByteArray}(h:Lib.indexByte t.data.toList 46= -1):cutA t=t∧cutB t=⟨#[]⟩∧cutP t=false:=by
 have e:Lib.cut t.data.toList [46]=(t.data.toList,[],false):=by
  unfold Lib.cut
  rw [index_byte,h,if_neg (by omega)]
 unfold cutA cutB cutP
 rw [e]
 exact⟨by apply ByteArray.ext;simp,rfl,rfl⟩
theorem scut_any(t:ByteArray)(w:World)(ht:t.size≤maxLen):Calls Tryz.prog 241 #[.string t,.string ⟨#[46]⟩] w fun e w'=>e= .returned (.tuple #[.string (cutA t),.string (cutB t),.bool (cutP t)])∧w.Grows w':=by
 unfold maxLen at ht
 have HI:Hid _:=Lib.hid (fun w=>Tryz.stringslite_Index_one t 46 w)
 have hge:=Lib.indexByte_ge t.data.toList 46
 by_cases h:Lib.indexByte t.data.toList 46= -1
 ·have HC:=Lib.hid (cut_none h)
  rw [h]at HI
  clear h hge
  go_enter Tryz.func241,Tryz.ntmps241
  go_wp2_with ((go_at_call 246;(with_reducible refine(HI.out _).mono ?_);rintro e w' ⟨rfl,rfl⟩))
  go_returns
  exact⟨by rw [HC.out.1,HC.out.2.1,HC.out.2.2];rfl,.of_below belB⟩
 ·obtain⟨o,ho⟩:∃o:Nat,Lib.indexByte t.data.toList 46=o:=⟨(Lib.indexByte t.data.toList 46).toNat,by omega⟩
  have hlt:o<t.size:=by
   have:=(Lib.indexByte_some ho).1
   have h2:=(List.getElem?_eq_some_iff.1 this).1
   simpa using h2
  have HC:=Lib.hid (cut_some ho hlt)
  rw [ho]at HI
  have h1:(o:Int)+1≤t.size:=by omega
  have h2:¬(o:Int)<0:=by omega
  have h3:(o:Int)≤t.size:=by omega
  have e1:(t.extract 0 (o:Int).toNat)=t.extract 0 o:=by rw [Int.toNat_natCast]
  have e2:t.extract ((o:Int)+1).toNat t.size=t.extract (o+1) t.size:=by congr 1
  have E:=Lib.hid (And.intro e1 e2)
  clear e1 e2 h hge ho
  go_enter Tryz.func241,Tryz.ntmps241
  go_wp2_with ((go_at_call 246;(with_reducible refine(HI.out _).mono ?_);rintro e w' ⟨rfl,rfl⟩))
  go_quiet (fail)
  go_wp2_with fail
  go_returns
  exact⟨by rw [HC.out.1,HC.out.2.1,HC.out.2.2];first|rfl|(simp;done),.of_below belB⟩
theorem Cut_dot(t:ByteArray)(w:World)(ht:t.size≤maxLen):Calls Tryz.prog 238 #[.string t,.string ⟨#[46]⟩] w fun e w'=>e= .returned (.tuple #[.string (cutA t),.string (cutB t),.bool (cutP t)])∧w.Grows w':=by
 have HI:Hid _:=Lib.hid (fun w=>scut_any t w ht)
 generalize cutA t=a at *
 generalize cutB t=b at *
 generalize cutP t=c at *
 go_enter Tryz.func238,Tryz.ntmps238
 go_wp2_with ((go_at_call 241;(with_reducible refine(HI.out _).mono ?_);rintro e w' ⟨rfl,bs,dr,rfl⟩))
 exact bz12

def formB(a b:ByteArray)(pt:Bool):Bool:=decForm a.data.toList b.data.toList pt
def decM(t:ByteArray)(m:Int):Option (Int × Int × Int):=if formB (cutA t) (cutB t) (cutP t)=true then decN (cutA t) (cutB t) m else none
theorem form_eq(a b:ByteArray)(pt:Bool):formB a b pt=(decide (1≤a.size)&&decide (a.size≤9)&&!(decide (1<a.size)&&decide (a.data.toList.head? =some 48))&&!(pt&&(decide (b.size<1) || decide (4<b.size)))):=by
 unfold formB decForm
 have h1:a.data.toList.length=a.size:=by simp
 have h2:b.data.toList.length=b.size:=by simp
 rw [h1,h2]
theorem head_eq{a:ByteArray}(h:0<a.size):(a.data.toList.head? =some 48)↔((a[0]'h).toNat:Int)=48:=by
 have h2:0<a.data.toList.length:=by simpa using h
 rw [List.head?_eq_getElem?,List.getElem?_eq_getElem h2]
 have e:a.data.toList[0]=a[0]'h:=by simp;rfl
 rw [e]
 constructor
 ·intro k;simp only [Option.some.injEq]at k;rw [k];rfl
 ·intro k
  congr 1
  apply UInt8.toNat_inj.1
  have:(48:UInt8).toNat=48:=rfl
  omega
def decK(a b:ByteArray)(pt:Bool)(m:Int):Option (Int × Int × Int):=if formB a b pt=true then decN a b m else none
theorem cutB_nil{t:ByteArray}(h:cutP t=false):(cutB t).size=0:=by
 unfold cutP Lib.cut at h
 unfold cutB Lib.cut
 split at h
 ·simp at h
 ·rename_i hc;rw [if_neg hc];rfl
theorem dec_T1k(t a b:ByteArray)(pt:Bool)(m:Int)(w:World)(hpt:pt=false→b.size=0)
 (HC:Hid (∀w,Calls Tryz.prog 238 #[.string t,.string ⟨#[46]⟩] w fun e w'=>e= .returned (.tuple #[.string a,.string b,.bool pt])∧w.Grows w'))
 (u1 u4 u5 u6 u7 u8 u9 u10 u11 u12 u13 u14 u15 u16 u17 u18 u19 u20 u21 u22 u23 u24 u25 u26 u27 u28 u29 u30 u31 u32 u33 u34 u35 u36 u37 u38 u39 u40 u41 u42 u43 u44 u45 u46 u47 u48 u49 u50 u51 u52 u53 u54 u55 u56 u57 u58 u59 u60 u61 u62 u63 u64 u65 u66 u67 u68 u69 u70 u71 u72 u73 u74 u75 u76 u77 u78 u79 u80 u81 u82 u83 u84 u85 u86 u87 u88 u89 u90 u91 u92 u93 u94 u95 u96 u97 u98 u99 u100 u101 u102 u103 u104 u105 u106 u107 u108 u109 u110 u111 u112 u113 u114 u115 u116 u117 u118 u119 u120 u121 u122 u123 u124 u125 u126 u127 u128 u129 u130 u131 u132 u133 u134 u135 u136 u137 u138 u139 u140 u141:Value) :
 Code.wp Tryz.prog (tlD (tlD (tlD (Tryz.f235.body.getD .skip)))) (bodyPost Tryz.prog Tryz.f235 (fun e w'=>e= .returned (decFV (decK a b pt m))∧w.Grows w')) {tmps:=#[.string t,u1,.pointer (some ⟨w.heap.size,0,none⟩),.int .i64 m,u4,u5,u6,u7,u8,u9,u10,u11,u12,u13,u14,u15,u16,u17,u18,u19,u20,u21,u22,u23,u24,u25,u26,u27,u28,u29,u30,u31,u32,u33,u34,u35,u36,u37,u38,u39,u40,u41,u42,u43,u44,u45,u46,u47,u48,u49,u50,u51,u52,u53,u54,u55,u56,u57,u58,u59,u60,u61,u62,u63,u64,u65,u66,u67,u68,u69,u70,u71,u72,u73,u74,u75,u76,u77,u78,u79,u80,u81,u82,u83,u84,u85,u86,u87,u88,u89,u90,u91,u92,u93,u94,u95,u96,u97,u98,u99,u100,u101,u102,u103,u104,u105,u106,u107,u108,u109,u110,u111,u112,u113,u114,u115,u116,u117,u118,u119,u120,u121,u122,u123,u124,u125,u126,u127,u128,u129,u130,u131,u132,u133,u134,u135,u136,u137,u138,u139,u140,u141],defers:=[]} (w.alloc (.cells #[.int .i64 0,.int .i64 0] 39)):=by
 have hf:=form_eq a b pt
 have hbad (h:formB a b pt=false):decK a b pt m=none:=by unfold decK;rw [h];rfl
 have hgood (h:formB a b pt=true):decK a b pt m=decN a b m:=by unfold decK;rw [h];rfl
 conv=>arg 2;whnf
 apply wp_seq_k
 intro K1 hK1
 have HK1:=Lib.hid hK1
 clear hK1
 go_wp2_with ((go_at_call 238;(with_reducible refine(HC.out _).mono ?_);rintro e w' ⟨rfl,bs,dr,rfl⟩))
 clear HC
 by_cases s1:1≤a.size
 case neg=>
  have HX:=Lib.hid (hbad (by rw [hf,decide_eq_false s1];rfl))
  have z1:(a.size:Int)<1:=by omega
  clear hf hbad hgood
  refine HK1.out _ _ ?_
  apply wp_seq_k
  intro K2 hK2
  have HK2:=Lib.hid hK2
  clear hK2
  go_wp2_with fail
  go_returns
  exact⟨by rw [HX.out];rfl,.of_below belB⟩
 by_cases s2:a.size≤9
 case neg=>
  have HX:=Lib.hid (hbad (by rw [hf,decide_eq_false s2,Bool.and_false];rfl))
  have z1:(9:Int)<(a.size:Int):=by omega
  clear hf hbad hgood
  refine HK1.out _ _ ?_
  apply wp_seq_k
  intro K2 hK2
  have HK2:=Lib.hid hK2
  clear hK2
  go_wp2_with fail
  go_returns
  exact⟨by rw [HX.out];rfl,.of_below belB⟩
 have h0:0<a.size:=by omega
 have hh:=head_eq h0
 have key (hz:(decide (1<a.size)&&decide (a.data.toList.head? =some 48))=false):formB a b pt=!(pt&&(decide (b.size<1) || decide (4<b.size))):=by
  rw [hf,decide_eq_true s1,decide_eq_true s2,hz];rfl
 by_cases s3:1<a.size
 ·by_cases s4:((a[0]'h0).toNat:Int)=48
  ·have HX:=Lib.hid (hbad (by rw [hf,decide_eq_true s3,decide_eq_true (hh.2 s4)];simp))
   have z1:(1:Int)<(a.size:Int):=by omega
   have z2:(a.size:Int)≤9:=by omega
   clear hf hbad hgood key hh
   refine HK1.out _ _ ?_
   apply wp_seq_k
   intro K2 hK2
   have HK2:=Lib.hid hK2
   clear hK2
   go_wp2_with fail
   go_returns
   exact⟨by rw [HX.out];rfl,.of_below belB⟩
  ·have hz:(decide (1<a.size)&&decide (a.data.toList.head? =some 48))=false:=by rw [decide_eq_false (fun h=>s4 (hh.1 h)),Bool.and_false]
   have hk:=key hz
   have s7:(((a[0]'h0).toNat:Int)==48)=false:=by simpa using s4
   have z1:(1:Int)<(a.size:Int):=by omega
   have z2:(a.size:Int)≤9:=by omega
   clear hf key hh hz
   cases pt
   ·have HX:=Lib.hid (hgood (by rw [hk];rfl))
    have hb0:=hpt rfl
    clear hk hbad hgood hpt
    refine HK1.out _ _ ?_
    apply wp_seq_k
    intro K2 hK2
    have HK2:=Lib.hid hK2
    clear hK2
    go_wp2_with fail
    refine HK2.out _ _ ?_
    rw [HX.out]
    exact dec_T2 a b m w bs _ (by omega) (by omega) _ _ _ _ _ _ _ _ _ _ _ _ _ _ _ _ _ _ _ _ _ _ _ _ _ _ _ _ _ _ _ _ _ _ _ _ _ _ _ _ _ _ _ _ _ _ _ _ _ _ _ _ _ _ _ _ _ _ _ _ _ _ _ _ _ _ _ _ _ _ _ _ _ _ _ _ _ _ _ _ _ _ _ _ _ _ _ _ _ _ _ _ _ _ _ _ _ _ _ _ _ _ _ _ _ _ _ _ _ _ _ _ _ _ _ _ _ _ _ _ _ _ _ _ _ _ _ _ _ _ _ _ _ _ _ _ _ _
   ·clear hpt
    by_cases s5:b.size<1
    ·have HX:=Lib.hid (hbad (by rw [hk,decide_eq_true s5];rfl))
     have z3:(b.size:Int)<1:=by omega
     clear hk hbad hgood
     refine HK1.out _ _ ?_
     apply wp_seq_k
     intro K2 hK2
     have HK2:=Lib.hid hK2
     clear hK2
     go_wp2_with fail
     go_returns
     exact⟨by rw [HX.out];rfl,.of_below belB⟩
    ·by_cases s6:4<b.size
     ·have HX:=Lib.hid (hbad (by rw [hk,decide_eq_true s6];simp))
      have z3:(4:Int)<(b.size:Int):=by omega
      clear hk hbad hgood
      refine HK1.out _ _ ?_
      apply wp_seq_k
      intro K2 hK2
      have HK2:=Lib.hid hK2
      clear hK2
      go_wp2_with fail
      go_returns
      exact⟨by rw [HX.out];rfl,.of_below belB⟩
     ·have HX:=Lib.hid (hgood (by rw [hk,decide_eq_false s5,decide_eq_false s6];rfl))
      have z3:(b.size:Int)≤4:=by omega
      have z4:(1:Int)≤(b.size:Int):=by omega
      clear hk hbad hgood
      refine HK1.out _ _ ?_
      apply wp_seq_k
      intro K2 hK2
      have HK2:=Lib.hid hK2
      clear hK2
      go_wp2_with fail
      refine HK2.out _ _ ?_
      rw [HX.out]
      exact dec_T2 a b m w bs _ (by omega) (by omega) _ _ _ _ _ _ _ _ _ _ _ _ _ _ _ _ _ _ _ _ _ _ _ _ _ _ _ _ _ _ _ _ _ _ _ _ _ _ _ _ _ _ _ _ _ _ _ _ _ _ _ _ _ _ _ _ _ _ _ _ _ _ _ _ _ _ _ _ _ _ _ _ _ _ _ _ _ _ _ _ _ _ _ _ _ _ _ _ _ _ _ _ _ _ _ _ _ _ _ _ _ _ _ _ _ _ _ _ _ _ _ _ _ _ _ _ _ _ _ _ _ _ _ _ _ _ _ _ _ _ _ _ _ _ _ _ _ _
 ·have hz:(decide (1<a.size)&&decide (a.data.toList.head? =some 48))=false:=by rw [decide_eq_false s3,Bool.false_and]
  have hk:=key hz
  have z1:(a.size:Int)≤1:=by omega
  have z2:(1:Int)≤(a.size:Int):=by omega
  clear hf key hh hz
  cases pt
  ·have HX:=Lib.hid (hgood (by rw [hk];rfl))
   have hb0:=hpt rfl
   clear hk hbad hgood hpt
   refine HK1.out _ _ ?_
   apply wp_seq_k
   intro K2 hK2
   have HK2:=Lib.hid hK2
   clear hK2
   go_wp2_with fail
   refine HK2.out _ _ ?_
   rw [HX.out]
   exact dec_T2 a b m w bs _ (by omega) (by omega) _ _ _ _ _ _ _ _ _ _ _ _ _ _ _ _ _ _ _ _ _ _ _ _ _ _ _ _ _ _ _ _ _ _ _ _ _ _ _ _ _ _ _ _ _ _ _ _ _ _ _ _ _ _ _ _ _ _ _ _ _ _ _ _ _ _ _ _ _ _ _ _ _ _ _ _ _ _ _ _ _ _ _ _ _ _ _ _ _ _ _ _ _ _ _ _ _ _ _ _ _ _ _ _ _ _ _ _ _ _ _ _ _ _ _ _ _ _ _ _ _ _ _ _ _ _ _ _ _ _ _ _ _ _ _ _ _ _
  ·clear hpt
   by_cases s5:b.size<1
   ·have HX:=Lib.hid (hbad (by rw [hk,decide_eq_true s5];rfl))
    have z3:(b.size:Int)<1:=by omega
    clear hk hbad hgood
    refine HK1.out _ _ ?_
    apply wp_seq_k
    intro K2 hK2
    have HK2:=Lib.hid hK2
    clear hK2
    go_wp2_with fail
    go_returns
    exact⟨by rw [HX.out];rfl,.of_below belB⟩
   ·by_cases s6:4<b.size
    ·have HX:=Lib.hid (hbad (by rw [hk,decide_eq_true s6];simp))
     have z3:(4:Int)<(b.size:Int):=by omega
     clear hk hbad hgood
     refine HK1.out _ _ ?_
     apply wp_seq_k
     intro K2 hK2
     have HK2:=Lib.hid hK2
     clear hK2
     go_wp2_with fail
     go_returns
     exact⟨by rw [HX.out];rfl,.of_below belB⟩
    ·have HX:=Lib.hid (hgood (by rw [hk,decide_eq_false s5,decide_eq_false s6];rfl))
     have z3:(b.size:Int)≤4:=by omega
     have z4:(1:Int)≤(b.size:Int):=by omega
     clear hk hbad hgood
     refine HK1.out _ _ ?_
     apply wp_seq_k
     intro K2 hK2
     have HK2:=Lib.hid hK2
     clear hK2
     go_wp2_with fail
     refine HK2.out _ _ ?_
     rw [HX.out]
     exact dec_T2 a b m w bs _ (by omega) (by omega) _ _ _ _ _ _ _ _ _ _ _ _ _ _ _ _ _ _ _ _ _ _ _ _ _ _ _ _ _ _ _ _ _ _ _ _ _ _ _ _ _ _ _ _ _ _ _ _ _ _ _ _ _ _ _ _ _ _ _ _ _ _ _ _ _ _ _ _ _ _ _ _ _ _ _ _ _ _ _ _ _ _ _ _ _ _ _ _ _ _ _ _ _ _ _ _ _ _ _ _ _ _ _ _ _ _ _ _ _ _ _ _ _ _ _ _ _ _ _ _ _ _ _ _ _ _ _ _ _ _ _ _ _ _ _ _ _ _
theorem decM_eq(t:ByteArray)(m:Int):decM t m=decP (Lib.cut t.data.toList [46]).1 (Lib.cut t.data.toList [46]).2.1 (Lib.cut t.data.toList [46]).2.2 m:=by
 unfold decM formB decN decP cutA cutB cutP
 simp [ByteArray.size]
theorem strip_eq{s t:ByteArray}{m:Int}(h:stripM s.data.toList=(t.data.toList,m)):decF s.data.toList=decM t m:=by
 unfold decF
 rw [h,decM_eq]
theorem last_eq{s:ByteArray}{n:Nat}(h:s.size=n+1):s.data.toList.getLast? =some (s[n]'(by omega)):=by
 have h3:s.data.toList.length=s.size:=by simp
 have h2:s.data.toList≠[]:=by
  intro e
  rw [e]at h3;simp at h3;omega
 rw [List.getLast?_eq_some_getLast h2,List.getLast_eq_getElem]
 congr 1
 have e:s.data.toList.length-1=n:=by omega
 simp only [e]
 rfl
theorem drop_last{s:ByteArray}{n:Nat}(h:s.size=n+1):(s.extract 0 n).data.toList=s.data.toList.dropLast:=by
 rw [ByteArray.data_extract,Array.toList_extract]
 have h3:s.data.toList.length=s.size:=by simp
 simp only [List.extract,List.drop_zero,Nat.sub_zero,List.dropLast_eq_take]
 congr 1
 omega
theorem Decimal2_any(s:ByteArray)(w:World)(hs:s.size≤maxLen):Calls Tryz.prog 235 #[.string s] w fun e w'=>e= .returned (decFV (decF s.data.toList))∧w.Grows w':=by
 by_cases h0:0<s.size
 ·obtain⟨n,hn⟩:∃n,s.size=n+1:=⟨s.size-1,by omega⟩
  have hl:=last_eq hn
  have hd:=drop_last hn
  have hm:s.size≤9223372036854775807:=by unfold maxLen at hs;omega
  have he:(s.extract 0 n).size≤maxLen:=by rw [ByteArray.size_extract];omega
  have hlt:n<s.size:=by omega
  obtain⟨c,hc⟩:∃c,s[n]'hlt=c:=⟨_,rfl⟩
  rw [hc]at hl
  have hN:(s.size:Int)=(n:Int)+1:=by omega
  by_cases c3:c=100
  ·have HF:Hid (decF s.data.toList=decK (cutA (s.extract 0 n)) (cutB (s.extract 0 n)) (cutP (s.extract 0 n)) 3):=Lib.hid (strip_eq (by unfold stripM;rw [hl,c3,if_pos rfl,hd]))
   have HE:=Lib.hid he
   have q1:((c.toNat:Int)==100)=true:=by rw [c3];rfl
   clear he hl hd c3 hs
   exact bz7
  ·by_cases c4:c=109
   focus
    have HF:Hid (decF s.data.toList=decK (cutA (s.extract 0 n)) (cutB (s.extract 0 n)) (cutP (s.extract 0 n)) 4):=Lib.hid (strip_eq (by unfold stripM;rw [hl,c4,if_neg (by decide),if_pos rfl,hd]))
    have HE:=Lib.hid he
    have q1:((c.toNat:Int)==100)=false:=by rw [c4];rfl
    have q2:((c.toNat:Int)==109)=true:=by rw [c4];rfl
   rotate_left
   focus
    have HF:Hid (decF s.data.toList=decK (cutA s) (cutB s) (cutP s) 2):=Lib.hid (strip_eq (by unfold stripM;rw [hl,if_neg (by simpa using c3),if_neg (by simpa using c4)]))
    have HE:=Lib.hid hs
    have q1:((c.toNat:Int)==100)=false:=by
     rw [beq_eq_false_iff_ne];intro k;exact c3 (UInt8.toNat_inj.1 (by have:(100:UInt8).toNat=100:=rfl;omega))
    have q2:((c.toNat:Int)==109)=false:=by
     rw [beq_eq_false_iff_ne];intro k;exact c4 (UInt8.toNat_inj.1 (by have:(109:UInt8).toNat=109:=rfl;omega))
   rotate_left
   all_goals
    clear he hl hd c3 c4 hs
    exact bz7
 ·have h1:s.data.toList= []:=by
   have h3:s.data.toList.length=s.size:=by simp
   exact List.eq_nil_of_length_eq_zero (by omega)
  have HF:Hid (decF s.data.toList=decK (cutA s) (cutB s) (cutP s) 2):=Lib.hid (strip_eq (by rw [h1];rfl))
  have HE:=Lib.hid hs
  have hN:(s.size:Int)=0:=by omega
  clear h1 hs
  exact bz7
end Go.Proofs.YtaghhncnicbedaaGreatDoor
namespace Go.Proofs.YtaghhncnicbedaaGreatDoor
open Go.RowKit Go.Shelf
attribute [local go_sem] Oper.semAt_some
abbrev SRow:=List (ByteArray × Val)
abbrev stN(l:List (ByteArray × Val))(i:Nat):ByteArray:=(l.getD i (ByteArray.empty,Val.zero)).1
abbrev stV(l:List (ByteArray × Val))(i:Nat):Val:=(l.getD i (ByteArray.empty,Val.zero)).2
structure StepAt(W:World)(b o:Nat)(n:ByteArray)(x:Val):Prop where
 p0:W.cell? ⟨b,o,none⟩=some (.string n)
 p1:W.cell? ⟨b,o+1,none⟩=some (.int .i64 x.dim)
 p2:W.cell? ⟨b,o+2,none⟩=some (.bool x.yes)
 p3:W.cell? ⟨b,o+3,none⟩=some (.int .i64 x.n)
 p4:W.cell? ⟨b,o+4,none⟩=some (.int .i64 x.d)
theorem StepAt.same{W W':World}{b o:Nat}{n:ByteArray}{x:Val}(h:StepAt W b o n x)(hw:∀o,W'.cell? ⟨b,o,none⟩=W.cell? ⟨b,o,none⟩):StepAt W' b o n x:=
 ⟨by rw [hw];exact h.p0,by rw [hw];exact h.p1,by rw [hw];exact h.p2,by rw [hw];exact h.p3,by rw [hw];exact h.p4⟩
def SRow.el(x:SRow)(i:Nat):Value:=.agg #[.string (stN x i),.int .i64 (stV x i).dim,.bool (stV x i).yes,.int .i64 (stV x i).n,.int .i64 (stV x i).d]
def SRow.Lies(x:SRow)(n₀:Nat)(W:World)(v:Value)(n:Nat):Prop:=
 n≤1000∧∃a cap,v= .slice a n cap∧(n=0∨∃b off,a=some ⟨b,off,none⟩∧b<n₀∧∀i,i<n→StepAt W b (off+i*5) (stN x i) (stV x i))
theorem SRow.Lies.below{x:SRow}{n₀ n:Nat}{W W':World}{v:Value}(h:SRow.Lies x n₀ W v n)(hb:Below n₀ W W'):SRow.Lies x n₀ W' v n:=by
 obtain⟨h0,a,cap,hv,h1⟩:=h
 refine⟨h0,a,cap,hv,h1.imp id ?_⟩
 rintro⟨b,off,ha,hlt,hc⟩
 exact⟨b,off,ha,hlt,fun i hi=>(hc i hi).same fun o=>hb.cell (p:=⟨b,o,none⟩) hlt⟩
end Go.Proofs.YtaghhncnicbedaaGreatDoor
namespace Go.Proofs.YtaghhncnicbedaaGreatDoor
structure VwR where
 age:Int
 year:Int
 children:Int
 base:Int
 den:Int
 days:List Int
 years:List Int
def VwR.d(R:VwR)(i:Nat):Int:=if i<R.days.length then pick (R.days.getD i 0) 20000 else 0
def viewP(R:VwR):Vw:=⟨pick R.age 110,1900+pick R.year 200,pick R.children 8,R.d 0,R.d 1,R.d 2,R.d 3,R.d 4,R.d 5,R.d 6,mkN (pick R.base 1000000) (pick R.den 12+1),mkD (pick R.base 1000000) (pick R.den 12+1),(R.years.take 20).map fun z=>pick z 5000000⟩
theorem VwR.d_bd(R:VwR)(i:Nat):0≤R.d i∧R.d i<20000:=by
 unfold VwR.d
 split
 ·exact pick_bd _ 20000 (by omega)
 ·omega
theorem le_mul_of{a b d n:Int}(h0:0≤a)(hb:0≤b)(hd:1≤d)(h:a*d=n*b)(hn:n≤1000000000000):a≤1000000000000*b:=by
 have h1:a*1≤a*d:=Int.mul_le_mul_of_nonneg_left hd h0
 have h2:n*b≤1000000000000*b:=Int.mul_le_mul_of_nonneg_right hn hb
 omega
theorem mkN_nonneg{n d:Int}(h1:0≤n)(h2:1≤d):0≤mkN n d:=by
 unfold mkN lowN
 rw [if_neg (by omega),decide_eq_false (by omega),decide_eq_false (by omega)]
 split
 ·omega
 ·simp only [bne_self_eq_false,Bool.false_eq_true,if_false]
  exact Int.natCast_nonneg _
theorem viewP_ok(R:VwR):(viewP R).ok=true:=by
 have a:=pick_bd R.age 110 (by omega)
 have b:=pick_bd R.year 200 (by omega)
 have c:=pick_bd R.children 8 (by omega)
 have n:=pick_bd R.base 1000000 (by omega)
 have d:=pick_bd R.den 12 (by omega)
 have e:=mkE_small n.1 (by omega) (show 1≤pick R.den 12+1 by omega) (by omega)
 have v:=mk_vfrac (show pick R.den 12+1≠0 by omega) e
 have m:=mk_value n.1 (show 1≤pick R.den 12+1 by omega) e
 have nn:=mkN_nonneg n.1 (show 1≤pick R.den 12+1 by omega)
 have vb:=vfrac_bd v
 have le:=le_mul_of nn (by omega) (show 1≤pick R.den 12+1 by omega) m (by omega)
 have dd:∀i,daysOk (R.d i)=true:=fun i=>by
  have:=R.d_bd i
  unfold daysOk
  exact decide_eq_true (by omega)
 have yy:yearsOk ((R.years.take 20).map fun z=>pick z 5000000)=true:=by
  unfold yearsOk
  rw [decide_eq_true (by rw [List.length_map,List.length_take];omega),Bool.true_and,List.all_eq_true]
  intro x hx
  obtain⟨z,-,rfl⟩:=List.mem_map.1 hx
  have:=pick_bd z 5000000 (by omega)
  exact decide_eq_true (by omega)
 unfold Vw.ok viewP
 dsimp only
 rw [decide_eq_true ⟨by omega,by omega,by omega,by omega,by omega,by omega⟩,dd,dd,dd,dd,dd,dd,dd,v,decide_eq_true ⟨nn,le⟩,yy]
 rfl
theorem viewP_len(R:VwR):(viewP R).years.length≤20:=by
 show((R.years.take 20).map fun z=>pick z 5000000).length≤20
 rw [List.length_map,List.length_take];omega
end Go.Proofs.YtaghhncnicbedaaGreatDoor
namespace Go.Proofs.YtaghhncnicbedaaGreatDoor
open Go.RowKit Go.ChangeShapes Go.WideShapes Go.Deep
section
variable {H : Type} {enc : TypeId × Value → H} {P : Program} {w : World}
def fits(P:Program)(t:TypeId)(d:DataW H):Prop:=∀n∈d.weights P t,n≤140737488351232

theorem add_at'(b off i:Nat):(⟨b,off,none⟩:Addr).add i=⟨b,off+i,none⟩:=by unfold Addr.add;split<;>simp_all
theorem cell_lt{w:World}{b o:Nat}{v:Value}(h:w.cell? ⟨b,o,none⟩=some v):b<w.heap.size:=by
 rcases Nat.lt_or_ge b w.heap.size with h1|h1
 ·exact h1
 ·simp [World.cell?,Array.getElem?_eq_none h1]at h
theorem i64_of_wf{n:Int}(h:(Lit.int .i64 n).wf=true):I64 n:=bounds_i64 h
theorem IntsAt.of_cells{a:Option Addr}{len cap:Nat}{zs:List Int}(hl:len≤cap)(hz:zs.length=cap)(hw:∀n∈zs,(Lit.int .i64 n).wf=true)(hb:len≤140737488355328)(ha:a=none→len=0)
 (hc:∀x,a=some x→∀i,i<cap→w.cell? (x.add i)=some (.int .i64 (zs.getD i 0))):IntsAt w (.slice a len cap) (zs.take len):=by
 have hlen:(zs.take len).length=len:=by rw [List.length_take];omega
 refine⟨by omega,fun z hz2=>i64_of_wf (hw z (List.mem_of_mem_take hz2)),a,cap,by rw [hlen], ?_⟩
 rw [hlen]
 by_cases h0:len=0
 ·exact .inl h0
 ·cases a with
  |none=>exact .inl (ha rfl)
  |some x=>
   obtain⟨b,off,spot⟩:=x
   have h1:=hc _ rfl 0 (by omega)
   have hspot:spot=none:=by simpa [Addr.add]using World.cell?_spot h1
   subst hspot
   have h2:∀i,i<cap→w.cell? ⟨b,off+i,none⟩=some (.int .i64 (zs.getD i 0)):=fun i hi=>by
    rw [←add_at'];exact hc _ rfl i hi
   refine .inr ⟨b,off,rfl,cell_lt (h2 0 (by omega)),fun i hi=>?_⟩
   rw [h2 i (by omega)]
   simp [List.getD_eq_getElem?_getD,hi]
theorem IntsAt.of_trod{t e:TypeId}{fuel:Nat}{v:Value}{x:DataW H × List MemPlace}(ht:P.underlying t=some (.slice e))(he:P.underlying e=some (.int .i64))(hc:P.cellsOf e=1)(hb:P.bytesOf e=8)
 (h:DataW.trod enc P w 0 (fun _=>true) true fuel t [v]=some x) (hf:fits P t x.1):∃zs,IntsAt w v zs:=by
 rcases open_ints ht he hc h with ⟨hcs,_⟩|⟨a,l,c,zs,hcs,_,hl,hm,hz,hx,hcell,hwz⟩
 ·simp at hcs
  subst hcs
  exact⟨[],by simp,by simp,none,0,rfl,.inl rfl⟩
 ·simp at hcs
  subst hcs
  simp only [if_true]at hz
  have h8:l≤140737488355328:=by
   have h9:=hf ((l+(c-l))*8) (by rw [hx];simp [DataW.weights,ht,lits,hb,hz,Nat.min_eq_left hl])
   omega
  exact⟨zs.take l,IntsAt.of_cells hl hz hwz h8 (fun e=>by cases e) fun x' hx' i hi=>by cases hx';exact hcell i (by omega)⟩
end
theorem c3:(Tryz.prog).cellsOf 3=1:=by kernel_rfl
theorem c22:(Tryz.prog).cellsOf 22=1:=by kernel_rfl
theorem b3:(Tryz.prog).bytesOf 3=8:=by kernel_rfl
theorem b22:(Tryz.prog).bytesOf 22=24:=by kernel_rfl
theorem fits_part{H:Type}{P:Program}{t:TypeId}{fs:Array Field}{l:List (DataW H)}{i:Nat}{f:Field}{d:DataW H}(ht:P.underlying t=some (.struct fs))(h:fits P t (.agg l))(hf:fs[i]? =some f)(hd:l[i]? =some d):fits P f.type d:=by
 intro n hn
 refine h n ?_
 simp only [DataW.weights,ht]
 exact DataW.weights_mem_each (j:=i) (by simp [hf]) hd n hn
theorem int_of_trod{H:Type}{enc:TypeId × Value→H}{w:World}{fuel:Nat}{v:Value}{x:DataW H × List MemPlace}(h:DataW.trod enc Tryz.prog w 0 (fun _=>true) true fuel 3 [v]=some x):∃n,v= .int .i64 n∧I64 n:=by
 obtain⟨n,hcs,_,hw⟩:=DataW.trod_int Tryz.underlying3 h
 exact⟨n,by simpa using hcs,i64_of_wf hw⟩
end Go.Proofs.YtaghhncnicbedaaGreatDoor
namespace Go.Proofs.YtaghhncnicbedaaGreatDoor
open Go.ChangeShapes Go.WideShapes Go.ChangeAt Go.RowKit
abbrev laidsX:List (String × DataW Unit):=[("math/bits.deBruijn32tab",Rows.laid_math_bits_deBruijn32tab),("math/bits.deBruijn64tab",Rows.laid_math_bits_deBruijn64tab),("internal/strconv.uint64pow10",Rows.laid_internal_strconv_uint64pow10)]
theorem pow10_data:(Rows.laid_internal_strconv_uint64pow10:DataW Unit)=Lib.tabData .u64 Lib.pow10Tab:=by kernel_rfl
theorem laids_plain{W:World}(h:laidMetH Tryz.prog laidsX W):laidMet Tryz.prog laidsX W:=by
 rwa [MakeChecks.laidMetH_plain _ _ _ (by kernel_rfl)]at h
theorem below_trodAll{H:Type}{enc:TypeId × Value→H}{P:Program}{W W':World}(hl:laidOutB P=true)(hb:Below W.heap.size W W'):∀(ts:List TypeId) (vs:List Value) (ds:List (DataW H)) (ps:List MemPlace),(∀t∈ts,P.readableRec t=true∧t<P.types.size)→
 DataW.TrodAll enc P W 0 (fun _=>true) true ts vs ds ps→(∀x∈ps,x.block<W.heap.size)→DataW.TrodAll enc P W' 0 (fun b=>decide (b<W.heap.size)) true ts vs ds ps
 | [],[],[],_,_,h,_=>h
 |t::ts,v::vs,d::ds,ps,hr,h,hlt=>by
  obtain⟨p,q,h1,h2,rfl⟩:=h
  exact⟨p,q,Below.trod hl (hr t List.mem_cons_self).1 (hr t List.mem_cons_self).2 h1 hb fun x hx=>hlt x (List.mem_append_left _ hx),
   below_trodAll hl hb ts vs ds q (fun t ht=>hr t (List.mem_cons_of_mem _ ht)) h2 fun x hx=>hlt x (List.mem_append_right _ hx),rfl⟩
 | [],_::_,_,_,_,h,_=>h.elim
 | [],[],_::_,_,_,h,_=>h.elim
 |_::_,[],_,_,_,h,_=>h.elim
 |_::_,_::_,[],_,_,h,_=>h.elim
def LawWalk{H:Type}(enc:TypeId × Value→H)(P:Program)(f:FuncId)(ts:List TypeId):Prop:=
 ∀(W:World) (base:Nat) (args:Array Value) (ds:List (DataW H)) (p:List MemPlace),laidMetH P laidsX W→(∀(j:Nat) t v,ts[j]? =some t→args[j]? =some v→Value.okWide P W .any base t v)→
  DataW.TrodAll enc P W 0 (fun _=>true) true ts args.toList ds p→(∀(j:Nat) t d,ts[j]? =some t→ds[j]? =some d→fits P t d)→
  Calls P f args W fun e W'=>e= .returned (.bool true)∧Below W.heap.size W W'
theorem law_post{H:Type}{enc:TypeId × Value→H}{P:Program}{fn:Func}{s:ChangeSpec}{W W':World}{args:Array Value}{ds gs:List (DataW H)}{before:List MemPlace}(hl:laidOutB P=true)
 (hr:fn.params.toList.all (fun t=>P.readableRec t&&decide (t<P.types.size))=true) (hres:fn.resultTypes=#[4]) (hu:P.underlying 4=some .bool) (hvars:s.vars= [])
 (hspec:∀ds:List (DataW H),ds.length=fn.params.size→s.fn H (ds++[])= {results:=[.lit (.bool true)],args:=ds})
 (hW:DataW.Whole enc P fn.params.toList s.vars false W args.toList ds gs before) (hb:Below W.heap.size W W'):s.post enc P fn false true false false W args (.bool true) W':=by
 have hW':=hW
 obtain⟨p,q,hA,hV,rfl,hfz,hnd⟩:=hW
 rw [hvars]at hV
 obtain⟨rfl,rfl⟩:=trodVars_none hV
 have hlen:∀(ts:List TypeId) (vs:List Value) (ds:List (DataW H)) (ps:List MemPlace),DataW.TrodAll enc P W 0 (fun _=>true) true ts vs ds ps→ds.length=ts.length:=by
  intro ts
  induction ts with
  |nil=>intro vs ds ps h;cases vs<;>cases ds<;>simp_all [DataW.TrodAll]
  |cons t ts ih=>
   intro vs ds ps h
   cases vs with
   |nil=>exact h.elim
   |cons v vs=>
    cases ds with
    |nil=>exact h.elim
    |cons d ds=>
     obtain⟨_,_,_,h2,_⟩:=h
     simp [ih _ _ _ h2]
 have hds:ds.length=fn.params.size:=by rw [hlen _ _ _ _ hA];simp
 have hs:=hspec ds hds
 have hlt:∀x∈p,x.block<W.heap.size:=fun x hx=>by have:=hW'.lt x (by simpa using hx);simpa using this
 refine⟨ds,[],p++[],[],p,[],hW', ?_, ?_, ?_,hb.frame _,fun h=>by cases h⟩
 ·rw [hs,hres]
  exact trodAll_mk1 (shut_bool hu _)
 ·rw [hs]
  refine below_trodAll hl hb _ _ _ _ (fun t ht=>?_) hA hlt
  have:=List.all_eq_true.1 hr t ht
  simpa using this
 ·rw [hs,hvars];rfl
theorem law_lift{H:Type}{enc:TypeId × Value→H}{C:Checked}{os:Os}{f:FuncId}{fn:Func}{s:ChangeSpec}{conds:List PathCond}(own:ownKnob C.prog.godebug=none)(started:os.Started)(noInit:C.prog.inits.idxOf? f=none)(hfn:C.prog.funcs[f]? =some fn)
 (witness:∃(w:World) (tape:Tape) (i:Input),w.os=os∧(w.forCall tape i).Shaped C.prog∧i.vars= []∧Input.okWide C.prog (w.forCall tape i) .any w.heap.size f i∧
  ((s.pre enc C.prog fn conds false (w.forCall tape i).memory i.args∧laidMetH C.prog laidsX (w.forCall tape i).memory)∧sizedMet enc C.prog fn (OpenSpec.ofChange s) false (w.forCall tape i).memory i.args)∧({}:Assume).holds C.prog (lone (Frame.enter C.prog f i.args .normal) [] (w.forCall tape i)))
 (hl:laidOutB C.prog=true) (hr:fn.params.toList.all (fun t=>C.prog.readableRec t&&decide (t<C.prog.types.size))=true) (hres:fn.resultTypes=#[4]) (hu:C.prog.underlying 4=some .bool) (hvars:s.vars= [])
 (hspec:∀ds:List (DataW H),ds.length=fn.params.size→s.fn H (ds++[])= {results:=[.lit (.bool true)],args:=ds}) (walk:LawWalk enc C.prog f fn.params.toList) :
 ReturnsInHanded {} C os f .any (fun w args=>(s.pre enc C.prog fn conds false w args∧laidMetH C.prog laidsX w)∧sizedMet enc C.prog fn (OpenSpec.ofChange s) false w args) (s.post enc C.prog fn false true false false):=by
 refine returnsInHanded_of_change_and (C:=C) (X:=fun w _=>laidMetH C.prog laidsX w) (fun _ _ _ hh h=>h.of_heap hh) own started noInit hfn witness ?_
 intro W base args ds gs before hval hW _ hsz hL _
 have hW':=hW
 obtain⟨p,q,hA,hV,rfl,hfz,hnd⟩:=hW
 have e:s.vars= []:=hvars
 rw [e]at hV
 obtain⟨rfl,rfl⟩:=trodVars_none hV
 refine(walk W base args ds p hL (fun j t v ht ha=>hval j t v (by simpa using ht) ha) hA (fun j t d ht hd n hn=>?_)).mono fun e W' ⟨he,hb⟩=>⟨_,he,law_post hl hr hres hu hvars hspec hW' hb⟩
 have:=List.all_eq_true.1 hsz n (DataW.weights_mem_each (j:=j) (by rw [List.getElem?_append_left (List.getElem?_eq_some_iff.1 ht).1];exact ht) (by rw [List.append_nil];exact hd) n hn)
 exact of_decide_eq_true this
theorem own:ownKnob Tryz.prog.godebug=none:=by kernel_rfl
theorem laidOut:laidOutB Tryz.prog=true:=by kernel_rfl
theorem laidsMet(os:Os)(args:Array Value):laidMetH Tryz.prog laidsX ((World.laidAll Tryz.prog os laidsX).forCall (fun _ _=>0) ⟨#[],args,[]⟩).memory:=by
 rw [MakeChecks.laidMetH_plain _ _ _ (by kernel_rfl)]
 exact laidMet_laidAll args (by kernel_rfl) (by kernel_rfl)
theorem tab_of_laid{W:World}(h:laidMetH Tryz.prog laidsX W):Tab W:=by
 have h2:=(laids_plain h).tail.tail
 rw [pow10_data]at h2
 exact Lib.tabIs_of_head (P:=Tryz.prog) (g:=2) (t:=289) (n:=20) (e:=138) (by kernel_rfl) (by kernel_rfl) (by kernel_rfl) (by kernel_rfl) (by kernel_rfl) (by kernel_rfl) h2
end Go.Proofs.YtaghhncnicbedaaGreatDoor
