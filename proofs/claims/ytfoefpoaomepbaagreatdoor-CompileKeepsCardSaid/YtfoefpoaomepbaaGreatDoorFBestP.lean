import Derived.Test.YtfoefpoaomepbaaGreatDoorFEvP
set_option linter.all false
set_option maxHeartbeats 16000000
set_option maxRecDepth 1000000
namespace Go.Proofs.YtfoefpoaomepbaaGreatDoor
def Desc(l:List Int):Prop:=l.Pairwise fun a b=>b≤a
theorem insD_perm(x:Int)(l:List Int):(insD x l).Perm (x::l):=by
 induction l with
 |nil=>exact List.Perm.refl _
 |cons y r ih=>
  unfold insD
  split
  ·exact(ih.cons y).trans (List.Perm.swap x y r)
  ·exact List.Perm.refl _
theorem insD_desc{x:Int}{l:List Int}(h:Desc l):Desc (insD x l):=by
 induction l with
 |nil=>simp [insD,Desc]
 |cons y r ih=>
  obtain⟨h1,h2⟩:=List.pairwise_cons.1 h
  unfold insD
  split<;>rename_i hc
  ·refine List.pairwise_cons.2 ⟨fun z hz=>?_,ih h2⟩
   rcases List.mem_cons.1 ((insD_perm x r).mem_iff.1 hz)with rfl|hz
   ·exact hc
   ·exact h1 z hz
  ·refine List.pairwise_cons.2 ⟨fun z hz=>?_,h⟩
   rcases List.mem_cons.1 hz with rfl|hz
   ·omega
   ·have:=h1 z hz;omega
theorem foldD(l:List Int):∀a:List Int,Desc a→Desc (l.foldl (fun a x=>insD x a) a)∧(l.foldl (fun a x=>insD x a) a).Perm (a++l):=by
 induction l with
 |nil=>intro a h;exact⟨h,by simp⟩
 |cons x r ih=>
  intro a h
  obtain⟨h1,h2⟩:=ih _ (insD_desc (x:=x) h)
  refine⟨h1,h2.trans ?_⟩
  exact((insD_perm x a).append_right r).trans List.perm_middle.symm
theorem sortD_desc(l:List Int):Desc (sortD l):=(foldD l [] List.Pairwise.nil).1
theorem sortD_perm(l:List Int):(sortD l).Perm l:=(foldD l [] List.Pairwise.nil).2
theorem sum_app(a b:List Int):(a++b).sum=a.sum+b.sum:=by
 induction a with
 |nil=>simp
 |cons x r ih=>simp only [List.cons_append,List.sum_cons,ih];omega
theorem mk_value{n d:Int}(h1:0≤n)(h2:1≤d)(he:mkE n d=0):mkN n d*d=n*mkD n d:=by
 have hg:0<Nat.gcd n.natAbs d.natAbs:=Nat.gcd_pos_of_pos_right _ (by omega)
 unfold mkE at he
 unfold mkN mkD
 rw [if_neg (by omega)]at he ⊢
 rw [if_neg (by omega)]
 unfold lowE at he
 unfold lowN lowD
 split at he<;>rename_i hc
 ·simp at he
 rw [if_neg hc,if_neg hc,decide_eq_false (by omega),decide_eq_false (by omega)]
 simp only [bne_self_eq_false,Bool.false_eq_true,if_false]
 obtain⟨a,rfl⟩:=Int.eq_ofNat_of_zero_le h1
 obtain⟨b,rfl⟩:=Int.eq_ofNat_of_zero_le (show 0≤d by omega)
 simp only [Int.natAbs_natCast]at hg ⊢
 rw [←Int.natCast_mul,←Int.natCast_mul]
 congr 1
 obtain⟨p,hp⟩:=Nat.gcd_dvd_left a b
 obtain⟨q,hq⟩:=Nat.gcd_dvd_right a b
 generalize Nat.gcd a b=g at *
 subst hp hq
 rw [Nat.mul_div_cancel_left _ hg,Nat.mul_div_cancel_left _ hg,Nat.mul_left_comm,Nat.mul_comm g p,Nat.mul_assoc,Nat.mul_comm p]
 rw [Nat.mul_comm q p,Nat.mul_left_comm]
theorem mk_vfrac{n d:Int}(h:d≠0)(he:mkE n d=0):vfrac (mkN n d) (mkD n d)=true:=by
 rcases mk_ok h (n:=n)with ⟨_,h2⟩|⟨_,_,h3⟩
 ·exact h2
 ·simp only [he]at h3;omega
end Go.Proofs.YtfoefpoaomepbaaGreatDoor
