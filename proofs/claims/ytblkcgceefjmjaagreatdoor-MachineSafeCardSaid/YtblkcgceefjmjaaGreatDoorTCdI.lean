import Derived.Test.YtblkcgceefjmjaaGreatDoorSVw8
set_option linter.all false
set_option maxHeartbeats 16000000
set_option maxRecDepth 1000000
namespace Go.Proofs.YtblkcgceefjmjaaGreatDoor
open Go.RowKit
theorem slRow_atM{base:Nat}{w:World}{v:Value}{sl:List ByteArray}(h:w.ownsRow base 9 1 v sl.length (slV sl))(hl:sl.length≤1000)(hs:∀s∈sl,s.size≤maxLen):SlAt w v sl:=by
 obtain⟨a,c,rfl,hc,h0⟩:=rowForm3 h
 refine⟨by omega,hs,a,c,hc,rfl,h0.imp id ?_⟩
 rintro⟨b,rfl,hb,-,hlt⟩
 refine⟨b,0,rfl,hlt,fun i hi=>?_⟩
 rw [Nat.zero_add]
 exact(h.cellAt i (by omega)).trans (slV_get sl i hi)
theorem i64_vfM{n d:Int}(h:vfrac n d=true):I64 n∧I64 d:=by have:=vfrac_bd h;unfold I64;omega
theorem InsOk.app9{a b:List Ins}(h:InsOk a)(k:InsOk b):InsOk (a++b):=fun x hx=>(List.mem_append.1 hx).elim (h x) (k x)
theorem InsOk.nil9:InsOk []:=fun x hx=>by cases hx
theorem InsOk.one9{x:Ins}{b:List Ins}(hx:I64 x.n∧I64 x.d)(k:InsOk b):InsOk (x::b):=fun y hy=>by
 rcases List.mem_cons.1 hy with h|h
 ·rw [h];exact hx
 ·exact k y h
theorem i64_00:I64 0∧I64 0:=by unfold I64;omega
theorem seqC_i64{κ:ByteArray→Nat}:∀(xs:List Ex),(∀a∈xs,∀i,InsOk (codeF κ a i))→∀i,InsOk (seqC (codesF κ xs) i)
 | [],_,_=>.nil9
 |a::r,h,i=>(h a (by simp) i).app9 (seqC_i64 r (fun b hb=>h b (List.mem_cons_of_mem _ hb)) _)
theorem brC_i64{A B C:Nat→List Ins}(hA:∀i,InsOk (A i))(hB:∀i,InsOk (B i))(hC:∀i,InsOk (C i))(i:Nat):InsOk (brC A B C i):=
 (hA i).app9 (.one9 i64_00 ((hB _).app9 (.one9 i64_00 (hC _))))
theorem args_i64{κ:ByteArray→Nat}(xs:List Ex)(h:∀a∈xs,∀i,InsOk (codeF κ a i))(k i:Nat):InsOk ((codesF κ xs).getD k (fun _=>[]) i):=by
 induction xs generalizing k with
 |nil=>simpa [codesF]using InsOk.nil9
 |cons a r ih=>
  cases k with
  |zero=>exact h a (by simp) i
  |succ k=>exact ih (fun b hb=>h b (List.mem_cons_of_mem _ hb)) k
mutual
theorem code_i64{κ:ByteArray→Nat}:∀e:Ex,formedB e=true→∀i,InsOk (codeF κ e i)
 | .mk op n d m s xs,hf,i=>by
   rw [formedB,Bool.and_eq_true,decide_eq_true_eq]at hf
   obtain⟨hlen,hf⟩:=hf
   rw [codeF]
   unfold codeNode
   by_cases h1:op=1
   ·rw [if_pos h1]at hf ⊢
    refine .one9 ?_ .nil9
    unfold decOk at hf
    simp only [Bool.and_eq_true]at hf
    exact i64_vfM (by first|exact hf.1.1.1.1.1.1|exact hf.1.1.1.1.1|exact hf.1.1.1.1|exact hf.1.1.1|exact hf.1.1|exact hf.1)
   by_cases h2:op=2
   ·rw [if_neg h1,if_pos h2]
    refine .one9 ?_ .nil9
    unfold nameI
    split<;>exact i64_00
   by_cases h3:op=3
   ·rw [if_neg h1,if_neg h2,if_pos h3];exact .one9 i64_00 .nil9
   rw [if_neg h1,if_neg h2,if_neg h3]at hf ⊢
   have hx:=codes_i64 (κ:=κ) xs (Bool.and_eq_true_iff.1 hf).1
   have a0:=fun i=>args_i64 xs hx 0 i
   have a1:=fun i=>args_i64 xs hx 1 i
   have a2:=fun i=>args_i64 xs hx 2 i
   by_cases h17:op=17
   ·rw [if_pos h17];exact brC_i64 a0 a1 (fun _=>.one9 i64_00 .nil9) i
   by_cases h18:op=18
   ·rw [if_neg h17,if_pos h18];exact brC_i64 a0 (fun _=>.one9 i64_00 .nil9) a1 i
   by_cases h21:op=21
   ·rw [if_neg h17,if_neg h18,if_pos h21];exact brC_i64 a0 a1 a2 i
   rw [if_neg h17,if_neg h18,if_neg h21]
   exact(seqC_i64 xs hx i).app9 (.one9 i64_00 .nil9)
theorem codes_i64{κ:ByteArray→Nat}:∀xs:List Ex,formedsB xs=true→∀a∈xs,∀i,InsOk (codeF κ a i)
 | [],_,_,ha,_=>by cases ha
 |e::r,hf,a,ha,i=>by
  rw [formedsB,Bool.and_eq_true]at hf
  rcases List.mem_cons.1 ha with h|ha
  ·rw [h];exact code_i64 e hf.1 i
  ·exact codes_i64 r hf.2 a ha i
end
theorem codeS_i64(ls:List (List Int))(g:List Int):∀k,k≤5→InsOk (codeS ls g k)
 |0,_=>.nil9
 |k+1,h=>by
  have ih:=codeS_i64 ls g k (by omega)
  have hb:=dimM_bd ls k
  have t1:=fun n=>code_i64 (κ:=slK (namesM k)) _ (good_made (l:=ls) (i:=k) (by omega) g (dim:=1) (by omega) (by omega)).1 n
  have t2:=fun n=>code_i64 (κ:=slK (namesM k)) _ (good_made (l:=ls) (i:=k) (by omega) (ls.getD k []) hb.1 hb.2).1 n
  have e:(dfnM ls k).e=topF (ls.getD k []) (envM ls k) (dimM ls k):=rfl
  rw [codeS,e]
  dsimp only
  split
  ·unfold setA
   have hA:InsOk (codeS ls g k++codeF (slK (namesM k)) (topF g (envM ls k) 1) (codeS ls g k).length++[(⟨22,0,0,0⟩:Ins)]++codeF (slK (namesM k)) (topF (ls.getD k []) (envM ls k) (dimM ls k)) (codeS ls g k++codeF (slK (namesM k)) (topF g (envM ls k) 1) (codeS ls g k).length++[(⟨22,0,0,0⟩:Ins)]).length++[(⟨4,(k:Int),0,0⟩:Ins)]):=(((ih.app9 (t1 _)).app9 (.one9 i64_00 .nil9)).app9 (t2 _)).app9 (.one9 i64_00 .nil9)
   exact hA.set _ (hA.at _)
  ·exact(ih.app9 (t2 _)).app9 (.one9 i64_00 .nil9)
theorem madeM_i64(l:List (List Int))(g:List Int):InsOk (madeC l g):=by
 rw [←codeS_made];exact codeS_i64 l g _ (by omega)
theorem madeM_len(ls:List (List Int))(g:List Int):(madeC ls g).length≤2000:=by
 rw [←codeS_made]
 have:=codeS_len ls g (min ls.length 5) (by omega)
 omega
end Go.Proofs.YtblkcgceefjmjaaGreatDoor
