import Derived.Test.YtfoefpoaomepbaaGreatDoorTBestI
set_option linter.all false
set_option maxHeartbeats 16000000
set_option maxRecDepth 1000000
namespace Go.Proofs.YtfoefpoaomepbaaGreatDoor
theorem mkE_small{n d:Int}(h1:0≤n)(h2:n≤1000000000000000)(h3:1≤d)(h4:d≤1000000000):mkE n d=0:=by
 unfold mkE lowE
 rw [if_neg (by omega),if_neg]
 have a:=Nat.div_le_self n.natAbs (Nat.gcd n.natAbs d.natAbs)
 have b:=Nat.div_le_self d.natAbs (Nat.gcd n.natAbs d.natAbs)
 omega
structure VwR where
 age:Int
 year:Int
 children:Int
 base:Int
 den:Int
 days:List Int
 years:List Int
def VwR.d(R:VwR)(i:Nat):Int:=if i<R.days.length then pick (R.days.getD i 0) 20000 else 0
theorem mkN_nonneg{n d:Int}(h1:0≤n)(h2:1≤d):0≤mkN n d:=by
 unfold mkN lowN
 rw [if_neg (by omega),decide_eq_false (by omega),decide_eq_false (by omega)]
 split
 ·omega
 ·simp only [bne_self_eq_false,Bool.false_eq_true,if_false]
  exact Int.natCast_nonneg _
def EnvG(env:List (ByteArray × Int)):Prop:=∀p∈env,inpD p.1.toList=0∧nameB p.1=true∧1≤p.2∧p.2≤4∧lastN env p.1=some p.2
theorem EnvG.nil:EnvG []:=fun p hp=>by cases hp
theorem mkD_dvd{n d:Int}(h2:1≤d)(he:mkE n d=0):mkD n d ∣ d:=by
 unfold mkE lowE at he
 unfold mkD lowD
 rw [if_neg (by omega)]at he ⊢
 split at he<;>rename_i hc
 ·simp at he
 rw [if_neg hc]
 obtain⟨b,rfl⟩:=Int.eq_ofNat_of_zero_le (show 0≤d by omega)
 rw [Int.natAbs_natCast]
 exact Int.natCast_dvd_natCast.2 (Nat.div_dvd_of_dvd (Nat.gcd_dvd_right _ _))
theorem mkN_le{n d:Int}(h1:0≤n)(h2:1≤d):mkN n d≤n:=by
 unfold mkN lowN
 rw [if_neg (by omega),decide_eq_false (by omega),decide_eq_false (by omega)]
 split
 ·omega
 ·have:=Nat.div_le_self n.natAbs (Nat.gcd n.natAbs d.natAbs)
  simp only [bne_self_eq_false,Bool.false_eq_true,if_false]
  omega
theorem lit_ok{n d m:Int}(h1:0≤n)(h2:n≤1000000)(h3:1≤d)(h4:d ∣ 10000)(h5:2≤m∧m≤4):decOk (mkN n d) (mkD n d) m=true:=by
 have hd:d≤10000:=Int.le_of_dvd (by omega) h4
 have he:=mkE_small h1 (by omega) h3 (by omega)
 have hv:=mk_vfrac (show d≠0 by omega) he
 have hb:=vfrac_bd hv
 have hn:=mkN_nonneg h1 h3
 have hl:=mkN_le h1 h3
 have hdv:mkD n d ∣ 10000:=Int.dvd_trans (mkD_dvd h3 he) h4
 have hq:mkN n d / mkD n d≤mkN n d:=Int.ediv_le_self _ hn
 unfold decOk
 rw [hv,decide_eq_true hn,decide_eq_true (Int.emod_eq_zero_of_dvd hdv),decide_eq_true h5.1,decide_eq_true h5.2,decide_eq_true (by omega)]
 rfl
theorem num_ok(zs:List Int)(p:Nat){m:Int}(h5:2≤m∧m≤4):decOk (numN zs p) (numD zs p) m=true:=by
 have h1:=nextV_bd zs p 4000 (by omega)
 have h2:=nextV_bd zs (p+1) 7 (by omega)
 unfold numN numD
 refine lit_ok h1.1 (by omega) ?_ ?_ h5
 all_goals
  generalize nextV zs (p+1) 7=i at *
  rcases(show i=0∨i=1∨i=2∨i=3∨i=4∨i=5∨i=6 by omega)with rfl|rfl|rfl|rfl|rfl|rfl|rfl<;>decide
def TypedE(env:List (ByteArray × Int))(dim:Int)(e:Ex):Prop:=formedB e=true∧inferF env e=(dim,0)
def TypedL(env:List (ByteArray × Int))(ds:List Int)(l:List Ex):Prop:=formedsB l=true∧infersF env l=(ds,0)∧l.length=ds.length
theorem TypedL.nil(env:List (ByteArray × Int)):TypedL env [] []:=⟨rfl,rfl,rfl⟩
theorem TypedL.cons{env:List (ByteArray × Int)}{d:Int}{ds:List Int}{e:Ex}{l:List Ex}(h:TypedE env d e)(g:TypedL env ds l):TypedL env (d::ds) (e::l):=by
 refine⟨by rw [formedsB,h.1,g.1];rfl, ?_,by simp [g.2.2]⟩
 rw [infersF,h.2,g.2.1];simp
end Go.Proofs.YtfoefpoaomepbaaGreatDoor
