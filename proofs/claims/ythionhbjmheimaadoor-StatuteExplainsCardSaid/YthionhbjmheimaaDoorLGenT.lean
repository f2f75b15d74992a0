import Derived.Test.YthionhbjmheimaaDoorLTop
import Derived.Test.YthionhbjmheimaaDoorLSyT
import Derived.Test.YthionhbjmheimaaDoorLK
import Derived.Lib.ItoaLen
set_option linter.all false
set_option maxHeartbeats 16000000
set_option maxRecDepth 1000000
namespace Go.Proofs.YthionhbjmheimaaDoor
def EnvG(env:List (ByteArray × Int)):Prop:=∀p∈env,inpD p.1.toList=0∧nameB p.1=true∧1≤p.2∧p.2≤4∧lastN env p.1=some p.2
theorem EnvG.nil:EnvG []:=fun p hp=>by cases hp
theorem mkD_dvd{n d:Int}(h2:1≤d)(he:mkE n d=0):mkD n d ∣ d:=by
 unfold mkE lowE at he
 unfold mkD lowD
 rw [if_neg (by omega)]at he ⊢
 split at he<;>rename_i hc
 ·simp at he
 rw [if_neg hc]
 obtain⟨b,rfl⟩:=Int.eq_ofNat_of_zero_le (show 0≤d by omega)
 rw [Int.natAbs_natCast]
 exact Int.natCast_dvd_natCast.2 (Nat.div_dvd_of_dvd (Nat.gcd_dvd_right _ _))
theorem mkN_le{n d:Int}(h1:0≤n)(h2:1≤d):mkN n d≤n:=by
 unfold mkN lowN
 rw [if_neg (by omega),decide_eq_false (by omega),decide_eq_false (by omega)]
 split
 ·omega
 ·have:=Nat.div_le_self n.natAbs (Nat.gcd n.natAbs d.natAbs)
  simp only [bne_self_eq_false,Bool.false_eq_true,if_false]
  omega
theorem lit_ok{n d m:Int}(h1:0≤n)(h2:n≤1000000)(h3:1≤d)(h4:d ∣ 10000)(h5:2≤m∧m≤4):decOk (mkN n d) (mkD n d) m=true:=by
 have hd:d≤10000:=Int.le_of_dvd (by omega) h4
 have he:=mkE_small h1 (by omega) h3 (by omega)
 have hv:=mk_vfrac (show d≠0 by omega) he
 have hb:=vfrac_bd hv
 have hn:=mkN_nonneg h1 h3
 have hl:=mkN_le h1 h3
 have hdv:mkD n d ∣ 10000:=Int.dvd_trans (mkD_dvd h3 he) h4
 have hq:mkN n d / mkD n d≤mkN n d:=Int.ediv_le_self _ hn
 unfold decOk
 rw [hv,decide_eq_true hn,decide_eq_true (Int.emod_eq_zero_of_dvd hdv),decide_eq_true h5.1,decide_eq_true h5.2,decide_eq_true (by omega)]
 rfl
theorem num_ok(zs:List Int)(p:Nat){m:Int}(h5:2≤m∧m≤4):decOk (numN zs p) (numD zs p) m=true:=by
 have h1:=nextV_bd zs p 4000 (by omega)
 have h2:=nextV_bd zs (p+1) 7 (by omega)
 unfold numN numD
 refine lit_ok h1.1 (by omega) ?_ ?_ h5
 all_goals
  generalize nextV zs (p+1) 7=i at *
  rcases(show i=0∨i=1∨i=2∨i=3∨i=4∨i=5∨i=6 by omega)with rfl|rfl|rfl|rfl|rfl|rfl|rfl<;>decide
def TypedE(env:List (ByteArray × Int))(dim:Int)(e:Ex):Prop:=formedB e=true∧inferF env e=(dim,0)
def TypedL(env:List (ByteArray × Int))(ds:List Int)(l:List Ex):Prop:=formedsB l=true∧infersF env l=(ds,0)∧l.length=ds.length
theorem TypedL.nil(env:List (ByteArray × Int)):TypedL env [] []:=⟨rfl,rfl,rfl⟩
theorem TypedL.cons{env:List (ByteArray × Int)}{d:Int}{ds:List Int}{e:Ex}{l:List Ex}(h:TypedE env d e)(g:TypedL env ds l):TypedL env (d::ds) (e::l):=by
 refine⟨by rw [formedsB,h.1,g.1];rfl, ?_,by simp [g.2.2]⟩
 rw [infersF,h.2,g.2.1];simp
def valP(n dim:Int):Val:=if dim=1 then⟨1,decide (n.tmod 2=0),0,0⟩else⟨dim,false,mkN (n.tmod 100000) (1+pick (n.tdiv 7) 12),mkD (n.tmod 100000) (1+pick (n.tdiv 7) 12)⟩
def stepD(z:Int):Int:=1+pick (z.tdiv 2) 4
def nmS(i:Nat):ByteArray:=if i=0 then⟨#[97]⟩else if i=1 then⟨#[98]⟩else if i=2 then⟨#[99]⟩else⟨#[100]⟩
def stepP(zs:List Int)(i:Nat):ByteArray × Val:=(nmS i,valP (zs.getD i 0) (stepD (zs.getD i 0)))
def stepsP(zs:List Int):List (ByteArray × Val):=(List.range (min zs.length 4)).map (stepP zs)
theorem mkE_any{n d:Int}(h1:-1000000000000000≤n)(h2:n≤1000000000000000)(h3:1≤d)(h4:d≤1000000000):mkE n d=0:=by
 exact lz20
theorem stepD_bd(z:Int):1≤stepD z∧stepD z≤4:=by
 have:=pick_bd (z.tdiv 2) 4 (by omega)
 unfold stepD;omega
theorem tmodH_bd(n:Int):-100000<n.tmod 100000∧n.tmod 100000<100000:=by
 have h:=Int.tmod_lt_of_pos n (show(0:Int)<100000 by omega)
 have h2:=Int.tmod_lt_of_pos (-n) (show(0:Int)<100000 by omega)
 rw [Int.neg_tmod]at h2
 omega
theorem valP_ok(n:Int){dim:Int}(h:1≤dim∧dim≤4):(valP n dim).ok=true:=by
 unfold valP
 split<;>rename_i hd
 ·rfl
 ·have b:=tmodH_bd n
  have p:=pick_bd (n.tdiv 7) 12 (by omega)
  exact Val.num_ok (by omega) (mk_vfrac (by omega) (mkE_any (by omega) (by omega) (by omega) (by omega)))
theorem stepsP_ok(zs:List Int):∀p∈stepsP zs,p.2.ok=true:=by
 intro p hp
 obtain⟨i,-,rfl⟩:=List.mem_map.1 hp
 exact valP_ok _ (stepD_bd _)
theorem stepsP_len(zs:List Int):(stepsP zs).length=min zs.length 4:=by
 unfold stepsP;rw [List.length_map,List.length_range]
theorem valP_dim(n:Int){dim:Int}:(valP n dim).dim=dim:=by
 unfold valP
 split
 ·rename_i h;exact h.symm
 ·rfl
theorem nmS_ok:∀i,i<4→inpD (nmS i).toList=0∧nameB (nmS i)=true:=by decide+kernel
theorem nmS_ne:∀i,i<4→∀j,j<4→nmS i=nmS j→i=j:=by decide+kernel
theorem lastN_of{α:Type}(f:Nat→ByteArray × α)(n:Nat)(hne:∀i,i<n→∀j,j<n→(f i).1=(f j).1→i=j){i:Nat}(hi:i<n):lastN ((List.range n).map f) (f i).1=some (f i).2:=by
 induction n with
 |zero=>omega
 |succ n ih=>
  unfold lastN
  rw [List.range_succ,List.map_append,List.reverse_append,List.map_cons,List.map_nil,List.reverse_singleton,List.singleton_append,List.find?_cons]
  by_cases hin:i=n
  ·subst hin;simp
  ·have hf:decide ((f n).1=(f i).1)=false:=decide_eq_false (fun h=>hin (hne n (by omega) i (by omega) h).symm)
   rw [hf]
   exact ih (fun a ha b hb=>hne a (by omega) b (by omega)) (by omega)
theorem stepsP_dims(zs:List Int):dimsOf (stepsP zs)=(List.range (min zs.length 4)).map fun i=>(nmS i,stepD (zs.getD i 0)):=by
 unfold dimsOf stepsP
 rw [List.map_map]
 refine List.map_congr_left fun i _=>?_
 show((stepP zs i).1,(stepP zs i).2.dim)=_
 unfold stepP
 rw [valP_dim]
theorem stepsP_env(zs:List Int):EnvG (dimsOf (stepsP zs)):=by
 rw [stepsP_dims]
 intro p hp
 obtain⟨i,hi,rfl⟩:=List.mem_map.1 hp
 have hi4:i<min zs.length 4:=List.mem_range.1 hi
 have a:=nmS_ok i (by omega)
 have b:=stepD_bd (zs.getD i 0)
 exact⟨a.1,a.2,b.1,b.2,lastN_of (fun i=>(nmS i,stepD (zs.getD i 0))) _ (fun a ha b hb h=>nmS_ne a (by omega) b (by omega) h) hi4⟩
end Go.Proofs.YthionhbjmheimaaDoor
namespace Go.Proofs.YthionhbjmheimaaDoor
open Go.RowKit
def FdPost(n d m:Int)(w:World)(e:Ending)(w':World):Prop:=∃s,e= .returned (.tuple #[.string s,.bool (decOk n d m)])∧(decOk n d m=true→s.data.toList=dec2T n d m)∧w.Grows w'
theorem FdPost.no{n d m:Int}{w w':World}(h:decOk n d m=false)(hw:w.Grows w'):FdPost n d m w (.returned (.tuple #[.string ⟨#[]⟩,.bool false])) w':=
 ⟨⟨#[]⟩,by rw [h],fun k=>(by rw [h]at k;cases k),hw⟩
theorem FdPost.yes{n d m:Int}{w w':World}{s:ByteArray}(h:decOk n d m=true)(hs:s.data.toList=dec2T n d m)(hw:w.Grows w'):FdPost n d m w (.returned (.tuple #[.string s,.bool true])) w':=
 ⟨s,by rw [h],fun _=>hs,hw⟩
def FdAt(n d:Int)(k:Nat)(l:List Int)(r:Int)(s:ByteArray):Prop:=
 fdig d 4 (n % d)=(fdig d (4-k) r).map (l++ ·)∧l.length=k∧s.data.toList=Lib.decDigits (n / d).toNat++dotL l
theorem dotL_snoc{l:List Int}(h:l≠[])(x:Int):dotL (l++[x])=dotL l++[dgB x]:=by
 unfold dotL
 rw [if_neg h,if_neg (by simp)]
 simp
theorem dotL_one(x:Int):dotL [x]= [46,dgB x]:=by unfold dotL;rw [if_neg (by simp)];rfl
theorem dec_dg{x:Int}(h0:0≤x)(h1:x≤9):Lib.decDigits x.toNat= [dgB x]:=by
 rw [Lib.decDigits,dif_pos (by omega)];rfl
theorem app_list(a b:ByteArray):(a++b).data.toList=a.data.toList++b.data.toList:=by
 rw [ByteArray.data_append,Array.toList_append]
theorem fdig_more{d:Int}{f:Nat}{r:Int}(h:0<r):fdig d (f+1) r=(fdig d f (r*10 % d)).map fun l=>r*10 / d::l:=by
 rw [fdig,if_neg (by omega)]
theorem FdAt.first{n d r:Int}{s:ByteArray}(h:FdAt n d 0 [] r s)(hr:0<r)(h0:0≤r*10 / d)(h1:r*10 / d≤9):FdAt n d 1 [r*10 / d] (r*10 % d) (s++⟨#[46]⟩++⟨(Lib.decDigits (r*10 / d).toNat).toArray⟩):=by
 obtain⟨a,-,c⟩:=h
 refine⟨?_,rfl, ?_⟩
 ·rw [a,show 4-0=3+1 by rfl,fdig_more hr]
  cases fdig d 3 (r*10 % d)<;>rfl
 ·rw [app_list,app_list,c,dec_dg h0 h1,dotL_one]
  simp [dotL]
theorem FdAt.more{n d r:Int}{s:ByteArray}{k:Nat}{l:List Int}(h:FdAt n d k l r s)(hk:0<k)(hk4:k<4)(hr:0<r)(h0:0≤r*10 / d)(h1:r*10 / d≤9) :
 FdAt n d (k+1) (l++[r*10 / d]) (r*10 % d) (s++⟨(Lib.decDigits (r*10 / d).toNat).toArray⟩):=by
 obtain⟨a,b,c⟩:=h
 refine⟨?_,by simp [b], ?_⟩
 ·rw [a,show 4-k=(4-(k+1))+1 by omega,fdig_more hr]
  cases fdig d (4-(k+1)) (r*10 % d)<;>simp
 ·rw [app_list,c,dec_dg h0 h1,dotL_snoc (by intro e;rw [e]at b;simp at b;omega),List.append_assoc]
theorem FdAt.some{n d r:Int}{s:ByteArray}{k:Nat}{l:List Int}(h:FdAt n d k l r s)(hr:r≤0):fdig d 4 (n % d)=some l:=by
 rw [h.1]
 have:fdig d (4-k) r=Option.some []:=by
  cases 4-k with
  |zero=>rw [fdig,if_pos hr]
  |succ f=>rw [fdig,if_pos hr]
 rw [this];simp
end Go.Proofs.YthionhbjmheimaaDoor
