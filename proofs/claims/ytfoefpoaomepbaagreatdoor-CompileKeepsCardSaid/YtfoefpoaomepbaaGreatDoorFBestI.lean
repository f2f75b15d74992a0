import Derived.Test.YtfoefpoaomepbaaGreatDoorFBestP
set_option linter.all false
set_option maxHeartbeats 16000000
set_option maxRecDepth 1000000
namespace Go.Proofs.YtfoefpoaomepbaaGreatDoor
theorem ins_split{x:Int}:∀(l:List Int) (at_:Nat),Desc l→at_≤l.length→(at_=0∨x≤l.getD (at_-1) 0)→(∀j,at_≤j→j<l.length→l.getD j 0<x)→insD x l=l.take at_++x::l.drop at_
 | [],at_,_,h,_,_=>by simp [insD]
 |y::r,0,_,_,_,h=>by
  have:=h 0 (by omega) (by simp)
  unfold insD
  simp at this
  rw [if_neg (by omega)]
  simp
 |y::r,a+1,hd,hl,h1,h2=>by
  obtain⟨g1,g2⟩:=List.pairwise_cons.1 hd
  have hle:x≤y:=by
   rcases h1 with h1|h1
   ·omega
   ·rcases Nat.eq_zero_or_pos a with rfl|ha
    ·simpa using h1
    ·have hm:(y::r).getD a 0∈r:=by
      obtain⟨b,rfl⟩:∃b,a=b+1:=⟨a-1,by omega⟩
      rw [List.length_cons]at hl
      rw [List.getD_cons_succ,List.getD_eq_getElem?_getD,List.getElem?_eq_getElem (show b<r.length by omega)]
      exact List.getElem_mem _
     have:=g1 _ hm
     simp only [Nat.add_sub_cancel]at h1
     omega
  unfold insD
  rw [if_pos hle,List.take_succ_cons,List.drop_succ_cons,List.cons_append]
  congr 1
  refine ins_split r a g2 (by simpa using hl) ?_ (fun j hj hjl=>?_)
  ·rcases Nat.eq_zero_or_pos a with rfl|ha
   ·exact .inl rfl
   ·right
    rcases h1 with h1|h1
    ·omega
    ·obtain⟨b,rfl⟩:∃b,a=b+1:=⟨a-1,by omega⟩
     simpa using h1
  ·have:=h2 (j+1) (by omega) (by simpa using hjl)
   simpa using this
abbrev sortK(l:List Int)(k:Nat):List Int:=sortD (l.take k)
theorem sortK_succ(l:List Int)(k:Nat)(hk:k<l.length):sortK l (k+1)=insD (l.getD k 0) (sortK l k):=by
 unfold sortK sortD
 rw [List.take_succ_eq_append_getElem hk,List.foldl_append,List.getD_eq_getElem?_getD,List.getElem?_eq_getElem hk]
 rfl
theorem sortK_len(l:List Int)(k:Nat)(hk:k≤l.length):(sortK l k).length=k:=by
 have:=(sortD_perm (l.take k)).length_eq
 rw [this,List.length_take];omega
theorem sortK_desc(l:List Int)(k:Nat):Desc (sortK l k):=sortD_desc _
theorem sortK_all(l:List Int):sortK l l.length=sortD l:=by unfold sortK;rw [List.take_length]
theorem sortK_split(l:List Int)(k at_:Nat)(hk:k<l.length)(ha:at_≤k)(h1:at_=0∨l.getD k 0≤(sortK l k).getD (at_-1) 0)(h2:∀j,at_≤j→j<k→(sortK l k).getD j 0<l.getD k 0) :
 sortK l (k+1)=(sortK l k).take at_++l.getD k 0::(sortK l k).drop at_:=by
 have hn:=sortK_len l k (by omega)
 rw [sortK_succ l k hk]
 exact ins_split _ _ (sortK_desc l k) (by omega) h1 (fun j hj hjl=>h2 j hj (by omega))
abbrev sumK(l:List Int)(j:Nat):Int:=(l.take j).sum
theorem sumK_succ(l:List Int)(j:Nat)(hj:j<l.length):sumK l (j+1)=sumK l j+l.getD j 0:=by
 unfold sumK
 rw [List.take_succ_eq_append_getElem hj,sum_app,List.getD_eq_getElem?_getD,List.getElem?_eq_getElem hj]
 simp
theorem years_mem{l:List Int}(h:yearsOk l=true):l.length≤200∧∀x∈l,0≤x∧x≤1000000000000:=by
 unfold yearsOk at h
 simp only [Bool.and_eq_true,decide_eq_true_eq,List.all_eq_true]at h
 exact h
theorem sum_bd{l:List Int}(h:∀x∈l,0≤x∧x≤1000000000000):0≤l.sum∧l.sum≤1000000000000*l.length:=by
 induction l with
 |nil=>simp
 |cons x r ih=>
  have h1:=h x (by simp)
  have h2:=ih (fun y hy=>h y (by simp [hy]))
  rw [List.sum_cons,List.length_cons]
  push_cast
  omega
theorem sumK_bd{l s:List Int}(h:yearsOk l=true)(hp:s.Perm l)(j:Nat):0≤sumK s j∧sumK s j≤200000000000000:=by
 have hm:=years_mem h
 have:=sum_bd (l:=s.take j) (fun x hx=>hm.2 x (hp.mem_iff.1 (List.mem_of_mem_take hx)))
 have hl:(s.take j).length≤200:=by
  have:=hp.length_eq
  rw [List.length_take];omega
 unfold sumK
 omega
theorem getD_bd{l s:List Int}(h:yearsOk l=true)(hp:s.Perm l)(j:Nat):0≤s.getD j 0∧s.getD j 0≤1000000000000:=by
 rw [List.getD_eq_getElem?_getD]
 cases hx:s[j]? with
 |none=>simp
 |some y=>exact(years_mem h).2 y (hp.mem_iff.1 (List.mem_of_getElem? hx))
end Go.Proofs.YtfoefpoaomepbaaGreatDoor
