import Derived.Test.YtlheailebbngiaaGreatDoorLExprN
import Derived.Test.YtlheailebbngiaaGreatDoorLWord
set_option linter.all false
set_option maxHeartbeats 16000000
set_option maxRecDepth 1000000
namespace Go
open Go.RowKit
@[go_sem] theorem World.setCell_src_other{w:World}{s:Nat}{lv:Value}{p left:Int}{b i:Nat}(h:b≠s)(v:Value):(w.src s lv p left).setCell ⟨b,i,none⟩ v=(w.setCell ⟨b,i,none⟩ v).src s lv p left:=by
  simp only [World.src,World.setCell]
  congr 1
  apply Array.ext_getElem?
  intro k
  simp only [Array.getElem?_modify,Array.getElem?_setIfInBounds,Array.size_modify]
  by_cases hk:b=k
  ·subst hk;simp [Ne.symm h]
  ·simp [hk]
theorem RowKit.Below.src{B:Nat}{a w:World}{s:Nat}(h:Below B a w)(hB:B≤s)(lv:Value)(p left:Int):Below B a (w.src s lv p left):=
 h.trans ⟨rfl,rfl,rfl,by simp,fun k hk=>World.heap_src_other (by omega)⟩
end Go
namespace Go.Proofs.YtlheailebbngiaaGreatDoor
open Go.RowKit

theorem leafN_size(zs:List Int)(env:List (ByteArray × Int))(p:Nat)(dim:Int):(leafN zs env p dim).1.size=1:=by
 unfold leafN
 split
 ·simp [Ex.size,Ex.sizes]
 ·split<;>simp [Ex.size,Ex.sizes]
theorem leafF_size(zs:List Int)(env:List (ByteArray × Int))(dim:Int)(p:Nat)(left:Int):(leafF zs env dim p left).1.size≤3:=by
 unfold leafF
 split
 ·simp [Ex.size,Ex.sizes,leafN_size]
 ·simp [leafN_size]
theorem nodeF_sizes(E:Int→Nat→Int→Ex × Nat × Int)(c:Nat)(hE:∀d p left,(E d p left).1.size≤c)(ds:List Int):∀(p:Nat) (left:Int),Ex.sizes (nodeF E ds p left).1≤ds.length*c:=by
 induction ds with
 |nil=>intro p left;simp [nodeF,Ex.sizes]
 |cons d ds ih=>
  intro p left
  have a:=hE d p left
  have b:=ih (E d p left).2.1 (E d p left).2.2
  simp only [nodeF,Ex.sizes,List.length_cons,Nat.add_mul,Nat.one_mul]
  omega
theorem exprF_size(zs:List Int)(env:List (ByteArray × Int))(n:Nat):∀(dim:Int) (p:Nat) (left:Int),(exprF zs env n dim p left).1.size≤costN n:=by
 induction n with
 |zero=>intro dim p left;have:=leafF_size zs env dim p left;simp only [exprF,costN];omega
 |succ n ih=>
  intro dim p left
  have h8:=costN_8 n
  rw [exprF,costN]
  split
  ·have:=leafF_size zs env dim p left;omega
  ·cases h:prodF zs p dim with
   |none=>have:=leafF_size zs env dim (p+1) (left-2);simp only;omega
   |some t=>
    obtain⟨op,ds,q⟩:=t
    have a:=prodF_bd zs p dim h
    have b:=nodeF_sizes (exprF zs env n) (costN n) ih ds q (left-2)
    have c:ds.length*costN n≤3*costN n:=Nat.mul_le_mul_right _ a.2.2
    simp only [Ex.size]
    omega
def topF(zs:List Int)(env:List (ByteArray × Int))(dim:Int):Ex:=
 if validB (exprF zs env 5 dim 0 24).1=true then(exprF zs env 5 dim 0 24).1 else(leafF zs env dim (exprF zs env 5 dim 0 24).2.1 0).1
theorem topF_yes{zs:List Int}{env:List (ByteArray × Int)}{dim:Int}{e:Ex}{r:Nat × Int}(h:exprF zs env 5 dim 0 24=(e,r))(hv:validB e=true):topF zs env dim=e:=by
 unfold topF;rw [h,if_pos hv]
theorem topF_no{zs:List Int}{env:List (ByteArray × Int)}{dim:Int}{e:Ex}{p':Nat}{l':Int}(h:exprF zs env 5 dim 0 24=(e,p',l'))(hv:validB e=false):topF zs env dim=(leafF zs env dim p' 0).1:=by
 unfold topF;rw [h,if_neg (by simp [hv])]
theorem ListAt.other{w:World}{s s':Nat}{lv:Value}{zs:List Int}(h:ListAt w s lv zs)(hs:w.heap.size≤s'):ListAt w s' lv zs:=by
 obtain⟨h0,a,cap,hv,h1⟩:=h
 refine⟨h0,a,cap,hv,h1.imp id ?_⟩
 rintro⟨b,off,ha,hb,hbs,hcc⟩
 exact⟨b,off,ha,hb,by omega,hcc⟩
theorem EnvAt.other{w:World}{s s':Nat}{v:Value}{env:List (ByteArray × Int)}(h:EnvAt w s v env)(hs:w.heap.size≤s'):EnvAt w s' v env:=by
 obtain⟨h0,hn,a,cap,hv,h1⟩:=h
 refine⟨h0,hn,a,cap,hv,h1.imp id ?_⟩
 rintro⟨b,off,ha,hb,hbs,hcc⟩
 exact⟨b,off,ha,hb,by omega,hcc⟩
theorem src_new'(w:World)(lv:Value)(p left:Int)(H:Nat)(hH:w.heap.size=H):(w.alloc (.cells #[lv,.int .i64 p,.int .i64 left] 120)).src H lv p left=w.alloc (.cells #[lv,.int .i64 p,.int .i64 left] 120):=by
 subst hH;exact World.src_new w lv p left

def MadeEx(w:World)(E:Ex)(e:Ending)(w':World):Prop:=∃v,e= .returned (exV E v)∧w.Grows w'∧RepE (fun b=>w.heap.size≤b) w' E v
theorem Expr_any(lv ev:Value)(zs:List Int)(env:List (ByteArray × Int))(dim:Int)(w:World)(hl0:ListAt w w.heap.size lv zs)(he0:EnvAt w w.heap.size ev env)(hd1:1≤dim)(hd4:dim≤4) :
 Calls Tryz.prog 27 #[lv,.int .i64 dim,ev] w (MadeEx w (topF zs env dim)):=by
 have hl:=Lib.hid (hl0.other (s':=w.heap.size+1) (by omega))
 have he:=Lib.hid (he0.other (s':=w.heap.size+1) (by omega))
 have hlf:=hl0
 obtain⟨-,la,lc,hlv,-⟩:=hlf
 subst hlv
 clear hl0 he0
 have hrb:=exprF_bd zs env 5 dim 0 24
 have hsz:=exprF_size zs env 5 dim 0 24
 have hc5:costN 5=2307:=rfl
 rw [hc5]at hrb hsz
 generalize hR:exprF zs env 5 dim 0 24=r at hrb hsz
 have HR:=Lib.hid hR
 clear hR hc5
 obtain⟨E,p',l'⟩:=r
 simp only at hrb hsz
 have HSZ:=Lib.hid (show E.size≤2305843009213693952 by omega)
 clear hsz
 go_enter Tryz.func27,Tryz.ntmps27
 go_wp2_with fail
 refine(ExprOK.call (expr_ok (w.heap.size+1) _ _ zs env 5 (by omega)) dim 0 0 24 1 _ _ HR rfl (by omega) hd1 hd4 (by simp) (src_new' _ _ _ _ _ (by simp)) (Lib.hid (by(repeat' (first|(with_reducible exact hl.out)|(with_reducible refine ListAt.alloc ?_ _)|(with_reducible refine ListAt.grow ?_ _ _)|(with_reducible refine ListAt.drewN ?_ _)|(with_reducible refine ListAt.src ?_ _ _ _))))) (Lib.hid (by(repeat' (first|(with_reducible exact he.out)|(with_reducible refine EnvAt.alloc ?_ _)|(with_reducible refine EnvAt.grow ?_ _ _)|(with_reducible refine EnvAt.drewN ?_ _)|(with_reducible refine EnvAt.src ?_ _ _ _))))) (by decide) (by decide) (by omega)).mono ?_
 rintro e' w' ⟨v,bs,d,rfl,rfl,hrep⟩
 obtain⟨va,vc,hv⟩:=hrep.form
 subst hv
 have REP:Hid (RepE (fun b=>w.heap.size+2≤b) ((((w.alloc (.cells #[.int .i64 0,.int .i64 0,.int .i64 0,.int .i64 0,.string ⟨#[]⟩,.slice none 0 0] 51)).alloc (.cells #[.slice la zs.length lc,.int .i64 0,.int .i64 24] 120)).src (w.heap.size+1) (.slice la zs.length lc) p' l').grow bs d) E (.slice va E.args.length vc)):=Lib.hid (hrep.mono fun b hb=>by simpa using hb)
 clear hrep
 cases hb:validB E
 ·have HB:=Lib.hid hb
  have HT:=Lib.hid (topF_no HR.out hb)
  clear hb
  go_wp2_with fail
  refine(ValidExpr_any _ E _ _ (Lib.hid (REP.out.alloc _)) HSZ).mono ?_
  rintro e' w' ⟨rfl,bs2,d2,rfl⟩
  simp only [HB.out]
  go_wp2_with fail
  have hlb:=leafF_size zs env dim p' 0
  generalize hL:leafF zs env dim p' 0=q at HT hlb
  have HL:=Lib.hid hL
  clear hL hlb
  obtain⟨E2,p2,l2⟩:=q
  refine(leaf_any (w.heap.size+1) (.slice la zs.length lc) zs p' _ 0 dim _ env _ rfl hd1 hd4 (by simp;omega) (by simp [go_sem]) (Lib.hid (by(repeat' (first|(with_reducible exact hl.out)|(with_reducible refine ListAt.alloc ?_ _)|(with_reducible refine ListAt.grow ?_ _ _)|(with_reducible refine ListAt.drewN ?_ _)|(with_reducible refine ListAt.src ?_ _ _ _))))) (Lib.hid (by(repeat' (first|(with_reducible exact he.out)|(with_reducible refine EnvAt.alloc ?_ _)|(with_reducible refine EnvAt.grow ?_ _ _)|(with_reducible refine EnvAt.drewN ?_ _)|(with_reducible refine EnvAt.src ?_ _ _ _))))) (by omega) (by omega) (by omega)).mono ?_
  rintro e' w' ⟨v2,bs3,d3,rfl,rfl,hrep2⟩
  obtain⟨v2a,v2c,hv2⟩:=hrep2.form
  subst hv2
  rw [HL.out]at hrep2
  simp only [HL.out]
  have H2:=Lib.hid (hrep2.eqw (w':=(((((w.alloc (.cells #[.int .i64 0,.int .i64 0,.int .i64 0,.int .i64 0,.string ⟨#[]⟩,.slice none 0 0] 51)).alloc (.cells #[.slice la zs.length lc,.int .i64 0,.int .i64 24] 120)).src (w.heap.size+1) (.slice la zs.length lc) p2 l2).grow bs d).alloc (.cells #[.int .i64 E.op,.int .i64 E.num,.int .i64 E.den,.int .i64 E.dim,.string E.name,.slice va E.args.length vc] 51)).grow (bs2++bs3) d3) (by simp [go_sem]))
  clear hrep2
  go_wp2_with fail
  go_returns
  refine⟨_,by rw [HT.out],.of_below (by(repeat' (first|(with_reducible exact Below.refl _ _)|(with_reducible assumption)|(with_reducible refine Below.grow ?_ ?_ _ _)|(with_reducible refine Below.alloc ?_ ?_ _)|(with_reducible refine Below.drewN ?_ _)|(with_reducible refine Below.drew ?_)|(with_reducible refine Below.src ?_ ?_ _ _ _)|(with_reducible refine Below.setCell ?_ ?_ _)|go_size))), ?_⟩
  rw [HT.out]
  refine(H2.out.lift0 ?_ ?_ _).mono ?_
  all_goals first
   |(intro b hb;simp at hb;omega)
   |(intro b hb;omega)
   |(simp;done)
   |(simp;omega)
 ·have HB:=Lib.hid hb
  have HT:=Lib.hid (topF_yes HR.out hb)
  clear hb
  go_wp2_with fail
  refine(ValidExpr_any _ E _ _ (Lib.hid (REP.out.alloc _)) HSZ).mono ?_
  rintro e' w' ⟨rfl,bs2,d2,rfl⟩
  simp only [HB.out]
  go_wp2_with fail
  go_returns
  refine⟨_,by rw [HT.out],.of_below (by(repeat' (first|(with_reducible exact Below.refl _ _)|(with_reducible assumption)|(with_reducible refine Below.grow ?_ ?_ _ _)|(with_reducible refine Below.alloc ?_ ?_ _)|(with_reducible refine Below.drewN ?_ _)|(with_reducible refine Below.drew ?_)|(with_reducible refine Below.src ?_ ?_ _ _ _)|(with_reducible refine Below.setCell ?_ ?_ _)|go_size))), ?_⟩
  rw [HT.out]
  refine((((REP.out.lift0 ?_ ?_ d).alloc _).grow _ _).mono ?_)
  all_goals first
   |(intro b hb;simp at hb;omega)
   |(intro b hb;omega)
   |(simp;done)
   |(simp;omega)
end Go.Proofs.YtlheailebbngiaaGreatDoor
