import Derived.Test.YtaghhncnicbedaaGreatDoorFBase
import Derived.Test.YtaghhncnicbedaaGreatDoorFShelf3
import Derived.Lib.Hide
set_option linter.all false
set_option maxHeartbeats 16000000
set_option maxRecDepth 1000000
namespace Go.Proofs.YtaghhncnicbedaaGreatDoor
open Go.RowKit

def pick(n k:Int):Int:=if k<1 then 0 else n % k

theorem tmod_bd(n k:Int)(hk:1≤k):-k<n.tmod k∧n.tmod k<k:=by
 have h1:=Int.tmod_lt_of_pos n (show 0<k by omega)
 have h2:=Int.tmod_lt_of_pos (-n) (show 0<k by omega)
 rw [Int.neg_tmod]at h2
 omega

theorem pick_bd(n k:Int)(hk:1≤k):0≤pick n k∧pick n k<k:=by
 unfold pick
 rw [if_neg (by omega)]
 exact⟨Int.emod_nonneg _ (by omega),Int.emod_lt_of_pos _ (by omega)⟩

theorem tmod_emod(n k:Int):n.tmod k % k=n % k:=by
 have h:=Int.mul_tdiv_add_tmod n k
 have h2:n.tmod k=n+k*(-(n.tdiv k)):=by rw [Int.mul_neg];omega
 rw [h2,Int.add_mul_emod_self_left]

theorem Pick_any(n k:Int)(w:World)(h1:k≤4611686018427387904) :
 Calls Tryz.prog 13 #[.int .i64 n,.int .i64 k] w fun e w'=>e= .returned (.int .i64 (pick n k))∧w=w':=by
 by_cases hk:k<1
 ·go_enter Tryz.func13,Tryz.ntmps13
  go_wp2
  go_ret
  exact⟨by simp [pick,hk],rfl⟩
 ·have hm:=tmod_bd n k (by omega)
  have hm1:=hm.1
  have hm2:=hm.2
  clear hm
  go_enter Tryz.func13,Tryz.ntmps13
  go_wp2
  go_ret
  exact⟨by simp [pick,tmod_emod,show ¬k<1 by omega],rfl⟩

end Go.Proofs.YtaghhncnicbedaaGreatDoor
namespace Go
theorem growsR{w w':World}(h:RowKit.Below w.heap.size w w':=by(try simp only [World.grow_grow,World.grow_drew,World.drew_grow,←Array.append_assoc]);repeat' (first|(with_reducible exact Go.RowKit.Below.fin)|(with_reducible exact Go.RowKit.Below.refl _ _)|(with_reducible assumption)|(with_reducible refine Go.RowKit.Below.peel ?_ ?_)|(with_reducible refine Go.RowKit.Below.grow ?_ ?_ _ _)|(with_reducible refine Go.RowKit.Below.alloc ?_ ?_ _)|(with_reducible refine Go.RowKit.Below.drewN ?_ _)|(with_reducible refine Go.RowKit.Below.drew ?_)|(with_reducible refine Go.RowKit.Below.setCell ?_ ?_ _)|go_size)):w.Grows w':=.of_below h
end Go
namespace Go.Proofs.YtaghhncnicbedaaGreatDoor
open Go.RowKit
theorem World.Grows.grown{W w w':World}{row:Option Nat}(h:W.Grows w)(hg:w.grownBy w' row)(hr:∀k,row=some k→W.heap.size≤k):W.Grows w':=.of_below (Below.grown h.below hg h.below.size hr)
end Go.Proofs.YtaghhncnicbedaaGreatDoor
namespace Go
section
variable {P : Program} {ops : Array Oper} {Q : Exit → Act → World → Prop} {S : World → Prop} {T : List Nat} {f : Nat} {oi : Oper} {v : Value} {listed : Array Bool} {a a' : Act} {w : World}
end
def Rel(Y:World)(row:Option Nat)(w:World):Prop:=Y.heap.size≤w.heap.size∧∀k,k<Y.heap.size→some k≠row→w.heap[k]? =Y.heap[k]?
section
variable {Y w w' : World} {row : Option Nat}
theorem Rel.refl(Y:World)(row:Option Nat):Rel Y row Y:=⟨Nat.le_refl _,fun _ _ _=>rfl⟩
theorem Rel.grows(h:Rel Y row w)(hg:w.Grows w'):Rel Y row w':=⟨Nat.le_trans h.1 hg.below.size,fun k h1 h2=>(hg.below.block k (Nat.lt_of_lt_of_le h1 h.1)).trans (h.2 k h1 h2)⟩
theorem Rel.grown(h:Rel Y row w)(hg:w.grownBy w' row):Rel Y row w':=⟨Nat.le_trans h.1 hg.size,fun k h1 h2=>(hg.block k (Nat.lt_of_lt_of_le h1 h.1) h2).trans (h.2 k h1 h2)⟩
theorem Rel.cell(h:Rel Y row w){b o:Nat}(hb:b<Y.heap.size)(hr:some b≠row):w.cell? ⟨b,o,none⟩=Y.cell? ⟨b,o,none⟩:=World.cell?_of_block (h.2 b hb hr)
end
end Go
namespace Go
theorem Calls.quietM3{P:Program}{f:FuncId}{args:Array Value}{w:World}{B bs cs:Array Obj}{d:Nat}{v:Value}
 (h:Calls P f args (w.grow (B++(bs++cs)) d) fun e w'=>e= .returned v∧(w.grow (B++(bs++cs)) d).Grows w'):Calls P f args (w.grow (B++(bs++cs)) d) fun e w''=>e= .returned v∧∃g:Growth,w''=w.grow (B++(bs++g.bs)) g.d:=
 h.mono fun _ _ ⟨he,bs',d',hw⟩=>⟨he,⟨cs++bs',d'⟩,by rw [hw,World.grow_grow,Array.append_assoc,Array.append_assoc]⟩
theorem Calls.quietMS3{P:Program}{f:FuncId}{args:Array Value}{w:World}{B bs cs:Array Obj}{d:Nat}{v:Value}
 (h:Calls P f args (w.grow (B++(bs++cs)) d) fun e w'=>e= .returned v∧(w.grow (B++(bs++cs)) d)=w'):Calls P f args (w.grow (B++(bs++cs)) d) fun e w''=>e= .returned v∧∃g:Growth,w''=w.grow (B++(bs++g.bs)) g.d:=
 h.mono fun _ _ ⟨he,hw⟩=>⟨he,⟨cs,d⟩,hw.symm⟩
end Go
namespace Go
section
variable {P : Program} {l : List Oper} {Q : Exit → Act → World → Prop} {a afin : Act} {w : World} {id : Nat}
theorem wp_region_made2b(n:Nat)(x y:Nat × Tmp × Obj)(hm:P.follows .mixedOrders=true)(hB:Region.madeB l n [(x.1,x.2.1),(y.1,y.2.1)]=true)
 (hrx:∀o,l[x.1]? =some o→∀ρ w,(execOp ρ o).run P w= .ok (.value (.pointer (some ⟨w.heap.size,0,none⟩))) (w.alloc x.2.2))
 (hry:∀o,l[y.1]? =some o→∀ρ w,(execOp ρ o).run P w= .ok (.value (.pointer (some ⟨w.heap.size,0,none⟩))) (w.alloc y.2.2))
 (h1:∀bs d,wpQuiet P ((l.take n).map Oper.mask).toArray (fun w'=>∃g:Growth,w'=(w.grow bs d).grow g.bs g.d) (· =afin) ((l.take n).map Oper.mask) a)
 (h2:∀gb1 gd1 gb2 gd2 gb gd,wpList P l.toArray Q (l.drop n) ((afin.put (some x.2.1) (.pointer (some ⟨(w.grow gb1 gd1).heap.size,0,none⟩))).put (some y.2.1) (.pointer (some ⟨(((w.grow gb1 gd1).alloc x.2.2).grow gb2 gd2).heap.size,0,none⟩))) (((((w.grow gb1 gd1).alloc x.2.2).grow gb2 gd2).alloc y.2.2).grow gb gd))
 (h3:∀gb1 gd1 gb2 gd2 gb gd,wpList P l.toArray Q (l.drop n) ((afin.put (some y.2.1) (.pointer (some ⟨(w.grow gb1 gd1).heap.size,0,none⟩))).put (some x.2.1) (.pointer (some ⟨(((w.grow gb1 gd1).alloc y.2.2).grow gb2 gd2).heap.size,0,none⟩))) (((((w.grow gb1 gd1).alloc y.2.2).grow gb2 gd2).alloc x.2.2).grow gb gd)):(Code.region id l.toArray true).wp P Q a w:=
 wp_region_made2 n x y hm hB hrx hry h1
  (fun gb1 gd1 gb2 gd2 gb gd=>by have:=h2 gb1 gd1 gb2 gd2 gb gd;simpa only [World.size_grow,World.size_alloc]using this)
  (fun gb1 gd1 gb2 gd2 gb gd=>by have:=h3 gb1 gd1 gb2 gd2 gb gd;simpa only [World.size_grow,World.size_alloc]using this)
end
end Go
namespace Go
theorem grows_drew{w:World}{bs:Array Obj}{d:Nat}:World.Grows w (w.grow bs d).drew:=⟨bs,d+1,rfl⟩
theorem grows_drew0{w:World}:World.Grows w w.drew:=⟨#[],w.drawn+1,by simp only [World.grow,Array.append_empty];rfl⟩
end Go
namespace Go.Proofs.YtaghhncnicbedaaGreatDoor
open Go.RowKit
def Tab(w:World):Prop:=Lib.TabIs Tryz.prog w "internal/strconv.uint64pow10" .u64 Lib.pow10Tab
theorem Tab.below{w w':World}(h:Tab w)(hb:Below w.heap.size w w'):Tab w':=by
 unfold Tab Lib.TabIs World.var? at *
 cases hg:Program.globalNamed Tryz.prog "internal/strconv.uint64pow10" with
 |none=>simp [hg]at h
 |some g=>
  simp only [hg,Option.bind_some]at h ⊢
  have hlt:g<w.heap.size:=by
   rcases Nat.lt_or_ge g w.heap.size with h'|h'
   ·exact h'
   ·rw [Array.getElem?_eq_none h']at h;simp at h
  rw [hb.block g hlt]
  exact h
theorem Tab.grow{w:World}(h:Tab w)(bs:Array Obj)(d:Nat):Tab (w.grow bs d):=h.below ((Below.refl _ _).grow (Nat.le_refl _) _ _)
theorem Tab.alloc{w:World}(h:Tab w)(o:Obj):Tab (w.alloc o):=h.below ((Below.refl _ _).alloc (Nat.le_refl _) _)
theorem Tab.drewN{w:World}(h:Tab w)(n:Nat):Tab (w.drewN n):=h.below ⟨rfl,rfl,rfl,Nat.le_refl _,fun _ _=>rfl⟩
theorem Tab.grows{w w':World}(h:Tab w)(hg:w.Grows w'):Tab w':=h.below hg.below
theorem Itoa_any(n:Int)(h0:-9223372036854775808≤n)(h1:n≤9223372036854775807)(w:World)(ht:Tab w):Calls Tryz.prog 234 #[.int .i64 n] w fun e w'=>e= .returned (.string ⟨(Lib.itoa n).toArray⟩)∧w.Grows w':=
 (Tryz.strconv_Itoa n h0 h1 w ht).mono fun e w' ⟨he,k,os,hw⟩=>⟨he,by
  subst hw
  refine .of_below ⟨rfl,rfl,rfl,by simp [Sort.grow,World.drewN],fun j hj=>?_⟩
  simp only [Sort.grow,World.drewN]
  rw [Array.getElem?_append_left hj]⟩
theorem Itoa_digit(x:Int)(h0:0≤x)(h1:x≤9)(w:World):Calls Tryz.prog 234 #[.int .i64 x] w fun e w'=>e= .returned (.string ⟨(Lib.decDigits x.toNat).toArray⟩)∧w=w':=by
 obtain⟨i,rfl⟩:=Int.eq_ofNat_of_zero_le h0
 exact(Tryz.strconv_Itoa_small i (by omega) w).mono fun e w' ⟨he,hw⟩=>⟨he,hw.symm⟩
end Go.Proofs.YtaghhncnicbedaaGreatDoor
