import Derived.Test.YtfoefpoaomepbaaGreatDoorFExprN
import Derived.Test.YtfoefpoaomepbaaGreatDoorFVwP
import Derived.Test.YtfoefpoaomepbaaGreatDoorFCodP
set_option linter.all false
set_option maxHeartbeats 16000000
set_option maxRecDepth 1000000
namespace Go.Proofs.YtfoefpoaomepbaaGreatDoor
def EnvG(env:List (ByteArray × Int)):Prop:=∀p∈env,inpD p.1.toList=0∧nameB p.1=true∧1≤p.2∧p.2≤4∧lastN env p.1=some p.2
theorem EnvG.nil:EnvG []:=fun p hp=>by cases hp
theorem mkD_dvd{n d:Int}(h2:1≤d)(he:mkE n d=0):mkD n d ∣ d:=by
 unfold mkE lowE at he
 unfold mkD lowD
 rw [if_neg (by omega)]at he ⊢
 split at he<;>rename_i hc
 ·simp at he
 rw [if_neg hc]
 obtain⟨b,rfl⟩:=Int.eq_ofNat_of_zero_le (show 0≤d by omega)
 rw [Int.natAbs_natCast]
 exact Int.natCast_dvd_natCast.2 (Nat.div_dvd_of_dvd (Nat.gcd_dvd_right _ _))
theorem mkN_le{n d:Int}(h1:0≤n)(h2:1≤d):mkN n d≤n:=by
 unfold mkN lowN
 rw [if_neg (by omega),decide_eq_false (by omega),decide_eq_false (by omega)]
 split
 ·omega
 ·have:=Nat.div_le_self n.natAbs (Nat.gcd n.natAbs d.natAbs)
  simp only [bne_self_eq_false,Bool.false_eq_true,if_false]
  omega
theorem lit_ok{n d m:Int}(h1:0≤n)(h2:n≤1000000)(h3:1≤d)(h4:d ∣ 10000)(h5:2≤m∧m≤4):decOk (mkN n d) (mkD n d) m=true:=by
 have hd:d≤10000:=Int.le_of_dvd (by omega) h4
 have he:=mkE_small h1 (by omega) h3 (by omega)
 have hv:=mk_vfrac (show d≠0 by omega) he
 have hb:=vfrac_bd hv
 have hn:=mkN_nonneg h1 h3
 have hl:=mkN_le h1 h3
 have hdv:mkD n d ∣ 10000:=Int.dvd_trans (mkD_dvd h3 he) h4
 have hq:mkN n d / mkD n d≤mkN n d:=Int.ediv_le_self _ hn
 unfold decOk
 rw [hv,decide_eq_true hn,decide_eq_true (Int.emod_eq_zero_of_dvd hdv),decide_eq_true h5.1,decide_eq_true h5.2,decide_eq_true (by omega)]
 rfl
theorem num_ok(zs:List Int)(p:Nat){m:Int}(h5:2≤m∧m≤4):decOk (numN zs p) (numD zs p) m=true:=by
 have h1:=nextV_bd zs p 4000 (by omega)
 have h2:=nextV_bd zs (p+1) 7 (by omega)
 unfold numN numD
 refine lit_ok h1.1 (by omega) ?_ ?_ h5
 all_goals
  generalize nextV zs (p+1) 7=i at *
  rcases(show i=0∨i=1∨i=2∨i=3∨i=4∨i=5∨i=6 by omega)with rfl|rfl|rfl|rfl|rfl|rfl|rfl<;>decide
def TypedE(env:List (ByteArray × Int))(dim:Int)(e:Ex):Prop:=formedB e=true∧inferF env e=(dim,0)
def TypedL(env:List (ByteArray × Int))(ds:List Int)(l:List Ex):Prop:=formedsB l=true∧infersF env l=(ds,0)∧l.length=ds.length
theorem TypedL.nil(env:List (ByteArray × Int)):TypedL env [] []:=⟨rfl,rfl,rfl⟩
theorem TypedL.cons{env:List (ByteArray × Int)}{d:Int}{ds:List Int}{e:Ex}{l:List Ex}(h:TypedE env d e)(g:TypedL env ds l):TypedL env (d::ds) (e::l):=by
 refine⟨by rw [formedsB,h.1,g.1];rfl, ?_,by simp [g.2.2]⟩
 rw [infersF,h.2,g.2.1];simp
theorem zip_self(s:List Bool):List.zipWith (· && ·) s s=s:=by
 induction s with
 |nil=>rfl
 |cons b r ih=>rw [List.zipWith_cons_cons,ih];simp
def Ver(sett:List Bool)(dims:List Int)(c:List Ins)(i:Nat)(t t':List Int):Prop:=
 ∀(S:List (Option (List Int × List Bool))) (dep:Nat),i+c.length<S.length→S.getD i none=some (t,sett)→(∀j,i<j→j<i+c.length→S.getD j none=none)→
  (S.getD (i+c.length) none=none∨S.getD (i+c.length) none=some (t',sett))→
  ∃S' dep',S'.length=S.length∧(∀j,i+c.length<j→S'.getD j none=S.getD j none)∧S'.getD (i+c.length) none=some (t',sett)∧∀r,goA (c++r) i S dims dep=goA r (i+c.length) S' dims dep'
section
variable {sett : List Bool} {dims : List Int} {i : Nat} {t t' t2 : List Int}
theorem putA_free{S:List (Option (List Int × List Bool))}{k:Nat}(h:S.getD k none=none∨S.getD k none=some (t,sett)):putA S k (t,sett)=some (S.set k (some (t,sett))):=by
 unfold putA
 rcases h with h|h
 ·rw [h]
 ·rw [h];simp only [if_true];rw [zip_self]
theorem Ver.one{x:Ins}(h:appA x (t,sett) dims=some ((t',sett),dims))(hl:t'.length≤24)(h1:x.op≠21)(h2:x.op≠22):Ver sett dims [x] i t t':=by
 intro S dep hi h0 _ hf
 have hp:=putA_free hf
 refine⟨S.set (i+1) (some (t',sett)),max dep t'.length,List.length_set ..,fun j hj=>?_, ?_,fun r=>?_⟩
 ·simp only [List.length_singleton]at hj
  rw [getD_setI,if_neg (by omega)]
 ·simp only [List.length_singleton]at hi ⊢
  rw [getD_setI,if_pos ⟨rfl,hi⟩]
 ·show goA (x::r) i S dims dep=_
  rw [goA]
  have e:rndA S x i dims dep=some (S.set (i+1) (some (t',sett)),dims,max dep t'.length):=by
   unfold rndA
   rw [h0]
   simp only [h]
   rw [if_neg (by show ¬24<t'.length;omega)]
   simp only [if_neg h1,if_neg (show ¬(x.op=21∨x.op=22)by omega)]
   simp only [List.length_singleton]at hp
   rw [hp]
  rw [e];rfl
theorem Ver.seq{a b:List Ins}(h:Ver sett dims a i t t')(g:Ver sett dims b (i+a.length) t' t2)(ha:a≠[])(hb:b≠[]):Ver sett dims (a++b) i t t2:=by
 intro S dep hi h0 hn hf
 have la:0<a.length:=List.length_pos_iff.2 ha
 have lb:0<b.length:=List.length_pos_iff.2 hb
 rw [List.length_append]at hi hn hf ⊢
 obtain⟨S1,d1,k1,k2,k3,k4⟩:=h S dep (by omega) h0 (fun j h1 h2=>hn j h1 (by omega)) (.inl (hn _ (by omega) (by omega)))
 obtain⟨S2,d2,q1,q2,q3,q4⟩:=g S1 d1 (by omega) k3 (fun j h1 h2=>by rw [k2 j h1];exact hn j (by omega) (by omega)) (by rw [k2 _ (by omega),Nat.add_assoc];exact hf)
 refine⟨S2,d2,by omega,fun j hj=>?_,by rw [←Nat.add_assoc];exact q3,fun r=>?_⟩
 ·rw [q2 j (by omega),k2 j (by omega)]
 ·rw [List.append_assoc,k4,q4,Nat.add_assoc]
end
section
variable {env : List (ByteArray × Int)} {κ : ByteArray → Nat} {sett : List Bool} {dims : List Int}
end
end Go.Proofs.YtfoefpoaomepbaaGreatDoor
