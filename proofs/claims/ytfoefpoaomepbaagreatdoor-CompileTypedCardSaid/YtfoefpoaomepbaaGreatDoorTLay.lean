import Derived.Test.YtfoefpoaomepbaaGreatDoorTLayF
import Derived.Test.YtfoefpoaomepbaaGreatDoorTK
set_option linter.all false
set_option maxHeartbeats 16000000
set_option maxRecDepth 1000000
namespace Go.Proofs.YtfoefpoaomepbaaGreatDoor
open Go.RowKit
theorem br_total(l:List Ins)(A B C:Nat→List Ins)(L1 L2 L3 L4 L5 L6:List Ins)(hL1:L1=l++A l.length)(hL2:L2=L1++[⟨22,0,0,0⟩])(hL3:L3=L2++B L2.length)(hL4:L4=L3++[⟨21,0,0,0⟩])(hL5:L5=setA L4 L1.length L4.length)(hL6:L6=L5++C L5.length) :
 setA L6 L3.length L6.length=l++brC A B C l.length∧L6.length=l.length+(brC A B C l.length).length:=by
 have n1:L1.length=l.length+(A l.length).length:=by rw [hL1,List.length_append]
 have n2:L2.length=l.length+(A l.length).length+1:=by rw [hL2,List.length_append,n1];rfl
 rw [n2]at hL3
 have n3:L3.length=l.length+(A l.length).length+1+(B (l.length+(A l.length).length+1)).length:=by rw [hL3,List.length_append,n2]
 have n4:L4.length=l.length+(A l.length).length+1+(B (l.length+(A l.length).length+1)).length+1:=by rw [hL4,List.length_append,n3];rfl
 have n5:L5.length=l.length+(A l.length).length+1+(B (l.length+(A l.length).length+1)).length+1:=by rw [hL5,setA_len,n4]
 rw [n5]at hL6
 have n6:L6.length=l.length+(A l.length).length+1+(B (l.length+(A l.length).length+1)).length+1+(C (l.length+(A l.length).length+1+(B (l.length+(A l.length).length+1)).length+1)).length:=by rw [hL6,List.length_append,n5]
 have key:=br_list l (A l.length) (B (l.length+(A l.length).length+1)) (C (l.length+(A l.length).length+1+(B (l.length+(A l.length).length+1)).length+1)) L1.length L3.length L6.length (by rw [hL1]) (by rw [hL3,hL2,hL1])
 have e4:L4=l++A l.length++[⟨22,0,0,0⟩]++B (l.length+(A l.length).length+1)++[⟨21,0,0,0⟩]:=by rw [hL4,hL3,hL2,hL1]
 rw [←e4,←hL5,←hL6]at key
 refine⟨?_, ?_⟩
 ·rw [key,n6];rfl
 ·have:=congrArg List.length key
  rw [setA_len,List.length_append]at this
  rw [this]
  unfold brC
  simp only [List.length_append,List.length_cons]
theorem argsN_op{n:Nat}{op:Int}(h:(n:Int)=argsN op):1≤op∧op≤21∧n≤3:=by
 unfold argsN at h
 (repeat' split at h)<;>omega
theorem getD_code(κ:ByteArray→Nat)(xs:List Ex)(k:Nat)(h:k<xs.length):(codesF κ xs).getD k (fun _=>[])=codeF κ (xs.getD k default):=by
 rw [List.getD_eq_getElem?_getD,codesF_get κ xs k h];rfl
end Go.Proofs.YtfoefpoaomepbaaGreatDoor
namespace Go.Proofs.YtfoefpoaomepbaaGreatDoor
def dimM(l:List (List Int))(i:Nat):Int:=1+((l.getD i []).length:Int) % 4
def envM(l:List (List Int))(i:Nat):List (ByteArray × Int):=(List.range i).map fun j=>(letN j,dimM l j)
def namesM(i:Nat):List ByteArray:=(List.range i).map letN
def dfnM(l:List (List Int))(i:Nat):Dfn:={κ:=slK (namesM i),e:=topF (l.getD i []) (envM l i) (dimM l i),k:=i,m:=dimM l i,env:=envM l i}
theorem seqC_len{κ:ByteArray→Nat}:∀(xs:List Ex),(∀a∈xs,∀i,(codeF κ a i).length≤3*a.size)→∀i,(seqC (codesF κ xs) i).length≤3*Ex.sizes xs
 | [],_,_=>Nat.zero_le _
 |a::r,h,i=>by
  simp only [codesF,seqC,List.length_append,Ex.sizes]
  have h1:=h a (by simp) i
  have h2:=seqC_len r (fun b hb=>h b (List.mem_cons_of_mem _ hb)) (i+(codeF κ a i).length)
  omega
theorem brC_len{A B C:Nat→List Ins}{a b c:Nat}(hA:∀i,(A i).length≤a)(hB:∀i,(B i).length≤b)(hC:∀i,(C i).length≤c)(i:Nat):(brC A B C i).length≤a+b+c+2:=by
 unfold brC
 simp only [List.length_append,List.length_cons]
 have h1:=hA i
 have h2:=hB (i+(A i).length+1)
 have h3:=hC (i+(A i).length+1+(B (i+(A i).length+1)).length+1)
 omega
theorem args_len{κ:ByteArray→Nat}(xs:List Ex)(h:∀a∈xs,∀i,(codeF κ a i).length≤3*a.size)(k i:Nat):((codesF κ xs).getD k (fun _=>[]) i).length≤3*((xs.getD k default).size):=by
 induction xs generalizing k with
 |nil=>simp [codesF]
 |cons a r ih=>
  cases k with
  |zero=>exact h a (by simp) i
  |succ k=>exact ih (fun b hb=>h b (List.mem_cons_of_mem _ hb)) k
theorem sizes_three(xs:List Ex)(h:xs.length=3):(xs.getD 0 default).size+(xs.getD 1 default).size+(xs.getD 2 default).size=Ex.sizes xs:=by
 match xs,h with
 | [a,b,c],_=>simp [Ex.sizes];omega
theorem sizes_two(xs:List Ex)(h:xs.length=2):(xs.getD 0 default).size+(xs.getD 1 default).size=Ex.sizes xs:=by
 match xs,h with
 | [a,b],_=>simp [Ex.sizes]
mutual
theorem code_len{κ:ByteArray→Nat}:∀e:Ex,formedB e=true→∀i,(codeF κ e i).length≤3*e.size
 | .mk op n d m s xs,hf,i=>by
   rw [formedB,Bool.and_eq_true,decide_eq_true_eq]at hf
   obtain⟨hlen,hf⟩:=hf
   rw [codeF,Ex.size]
   unfold codeNode
   by_cases h1:op=1
   ·rw [if_pos h1];simp;omega
   by_cases h2:op=2
   ·rw [if_neg h1,if_pos h2];simp;omega
   by_cases h3:op=3
   ·rw [if_neg h1,if_neg h2,if_pos h3];simp;omega
   rw [if_neg h1,if_neg h2,if_neg h3]at hf ⊢
   have hx:=codes_len (κ:=κ) xs (Bool.and_eq_true_iff.1 hf).1
   have a0:=fun i=>args_len xs hx 0 i
   have a1:=fun i=>args_len xs hx 1 i
   have a2:=fun i=>args_len xs hx 2 i
   by_cases h17:op=17
   ·rw [if_pos h17]
    have hs:=sizes_two xs (by rw [h17]at hlen;simp [argsN]at hlen;omega)
    have:=brC_len a0 a1 (C:=fun _=>[⟨24,0,0,0⟩]) (c:=1) (fun _=>Nat.le_refl 1) i
    omega
   by_cases h18:op=18
   ·rw [if_neg h17,if_pos h18]
    have hs:=sizes_two xs (by rw [h18]at hlen;simp [argsN]at hlen;omega)
    have:=brC_len a0 (B:=fun _=>[⟨23,0,0,0⟩]) (b:=1) (fun _=>Nat.le_refl 1) a1 i
    omega
   by_cases h21:op=21
   ·rw [if_neg h17,if_neg h18,if_pos h21]
    have hs:=sizes_three xs (by rw [h21]at hlen;simp [argsN]at hlen;omega)
    have:=brC_len a0 a1 a2 i
    omega
   rw [if_neg h17,if_neg h18,if_neg h21,List.length_append,List.length_singleton]
   have:=seqC_len xs hx i
   omega
theorem codes_len{κ:ByteArray→Nat}:∀xs:List Ex,formedsB xs=true→∀a∈xs,∀i,(codeF κ a i).length≤3*a.size
 | [],_,_,ha,_=>by cases ha
 |e::r,hf,a,ha,i=>by
  rw [formedsB,Bool.and_eq_true]at hf
  rcases List.mem_cons.1 ha with h|ha
  ·rw [h];exact code_len e hf.1 i
  ·exact codes_len r hf.2 a ha i
end
theorem defsC_len:∀(ds:List Dfn) (i:Nat),(∀d∈ds,∀i,(codeF d.κ d.e i).length≤180)→(defsC ds i).length≤181*ds.length
 | [],_,_=>Nat.zero_le _
 |d::r,i,h=>by
  rw [defsC,List.length_append,List.length_cons]
  have h1:=h d (by simp) i
  have h2:=defsC_len r (i+(d.code i).length) (fun b hb=>h b (List.mem_cons_of_mem _ hb))
  have hcl:(d.code i).length=(codeF d.κ d.e i).length+1:=by unfold Dfn.code;rw [List.length_append];rfl
  omega
def madeC(l:List (List Int))(g:List Int):List Ins:=
 if g= []∨l= []then defsC ((List.range' 0 (min l.length 5)).map (dfnM l)) 0
 else defsC ((List.range' 0 (min l.length 5-1)).map (dfnM l)) 0++guardC (codeF (slK (namesM (min l.length 5-1))) (topF g (envM l (min l.length 5-1)) 1)) [dfnM l (min l.length 5-1)] (defsC ((List.range' 0 (min l.length 5-1)).map (dfnM l)) 0).length
def lastB(n k:Nat):Bool:=decide (k+1=n) || decide (k=4)
theorem defsC_snoc(a:List Dfn)(d:Dfn)(i:Nat):defsC (a++[d]) i=defsC a i++d.code (i+(defsC a i).length):=by
 induction a generalizing i with
 |nil=>simp [defsC]
 |cons x r ih=>
  rw [List.cons_append,defsC,defsC,ih,List.append_assoc,List.length_append,Nat.add_assoc]
end Go.Proofs.YtfoefpoaomepbaaGreatDoor
namespace Go.Proofs.YtfoefpoaomepbaaGreatDoor
open Go.RowKit
def slV(sl:List ByteArray):List Value:=sl.map Value.string
def enV(env:List (ByteArray × Int)):List Value:=env.flatMap fun p=>[.string p.1,.int .i64 p.2]
structure Cod3(w:World)(base g:Nat)(cI cS vI vS vE:Value)(l:List Ins)(sl:List ByteArray)(env:List (ByteArray × Int))(W:World):Prop where
 gr:w.Grows W
 wg:w.heap.size≤g
 gb:g<base
 bW:base≤W.heap.size
 blk:∃ty,W.heap[g]? =some (.cells #[cI,cS] ty (0,0))
 row:LRow base W vI l
 slr:W.ownsRow base 9 1 vS sl.length (slV sl)
 enr:W.ownsRow base 106 2 vE env.length (enV env)
 dIS:∀b,vI.ownBlock=some b→vS.ownBlock≠some b
 dIE:∀b,vI.ownBlock=some b→vE.ownBlock≠some b
 dSE:∀b,vS.ownBlock=some b→vE.ownBlock≠some b
theorem keptNe{w w':World}{base size n:Nat}{e:TypeId}{v:Value}{xs:List Value}{row:Option Nat}(h:w.ownsRow base e size v n xs)(hg:w.grownBy w' row)(hne:∀b,row=some b→v.ownBlock≠some b):w'.ownsRow base e size v n xs:=
 h.kept hg (by
  cases e1:v.ownBlock with
  |none=>exact .inl rfl
  |some b=>exact .inr fun e2=>hne b e2.symm e1)
theorem grownOf{w w':World}(hg:w.Grows w')(row:Option Nat):w.grownBy w' row:=⟨hg.below.os,hg.below.tape,hg.below.output,hg.below.size,fun k hk _=>hg.below.block k hk⟩
theorem grownSet(w:World)(g j:Nat)(u:Value):w.grownBy (w.setCell ⟨g,j,none⟩ u) (some g):=by
 have hB:=Below.setCell (p:=(⟨g,j,none⟩:Addr)) (Below.refl g w) (Nat.le_refl g) u
 exact⟨hB.os,hB.tape,hB.output,hB.size,fun k _ hn=>Below.heap_setCell _ _ _ _ (fun e=>hn (by rw [e]))⟩
theorem apNew{v v1 u:Value}{W:World}(hat:v1.ownBlock=v.ownBlock∨∃b,v1.ownBlock=some b∧W.heap.size≤b)(hu:∀k,u.ownBlock=some k→k<W.heap.size)(h:∀b,v.ownBlock=some b→u.ownBlock≠some b):∀b,v1.ownBlock=some b→u.ownBlock≠some b:=by
 intro b hb e
 rcases hat with e1|⟨b',e1,hb'⟩
 ·exact h b (e1.symm.trans hb) e
 ·rw [e1]at hb;cases hb
  have:=hu _ e;omega
theorem apSym{v u:Value}(h:∀b,v.ownBlock=some b→u.ownBlock≠some b):∀b,u.ownBlock=some b→v.ownBlock≠some b:=fun b h1 h2=>h b h2 h1
section
variable {w W W' W1 : World} {base g : Nat} {cI cS vI vS vE v1 : Value} {l l1 : List Ins} {sl sl1 : List ByteArray} {env env1 : List (ByteArray × Int)}
theorem Cod3.grows(h:Cod3 w base g cI cS vI vS vE l sl env W)(hg:W.Grows W'):Cod3 w base g cI cS vI vS vE l sl env W':=by
 obtain⟨ty,hb⟩:=h.blk
 exact⟨h.gr.trans' hg,h.wg,h.gb,Nat.le_trans h.bW hg.below.size,⟨ty,(hg.below.block g (Array.getElem?_eq_some_iff.1 hb).1).trans hb⟩,h.row.grows hg,
  keptNe h.slr (grownOf hg none) (fun _ e=>by cases e),keptNe h.enr (grownOf hg none) (fun _ e=>by cases e),h.dIS,h.dIE,h.dSE⟩
theorem Cod3.lay(h:Cod3 w base g cI cS vI vS vE l sl env W)(hx:Ext W W1 vI v1)(hr:LRow base W1 v1 l1):Cod3 w base g cI cS v1 vS vE l1 sl env W1:=by
 obtain⟨ty,hb⟩:=h.blk
 have hlt:∀k,vI.ownBlock=some k→base≤k:=fun k e=>(h.row.lt k e).1
 exact⟨World.Grows.grown h.gr hx.g (fun k e=>by have:=hlt k e;have:=h.wg;have:=h.gb;omega),h.wg,h.gb,Nat.le_trans h.bW hx.g.size,
  ⟨ty,(hx.g.block g (Array.getElem?_eq_some_iff.1 hb).1 (fun e=>by have:=hlt g e.symm;have:=h.gb;omega)).trans hb⟩,hr,
  keptNe h.slr hx.g h.dIS,keptNe h.enr hx.g h.dIE,apNew hx.at_ (fun k e=>(h.slr.lt k e).2) h.dIS,apNew hx.at_ (fun k e=>(h.enr.lt k e).2) h.dIE,h.dSE⟩
theorem Cod3.slot(h:Cod3 w base g cI cS vI vS vE l sl env W)(hx:Ext W W1 vS v1)(hr:W1.ownsRow base 9 1 v1 sl1.length (slV sl1)):Cod3 w base g cI cS vI v1 vE l sl1 env W1:=by
 obtain⟨ty,hb⟩:=h.blk
 have hlt:∀k,vS.ownBlock=some k→base≤k:=fun k e=>(h.slr.lt k e).1
 exact⟨World.Grows.grown h.gr hx.g (fun k e=>by have:=hlt k e;have:=h.wg;have:=h.gb;omega),h.wg,h.gb,Nat.le_trans h.bW hx.g.size,
  ⟨ty,(hx.g.block g (Array.getElem?_eq_some_iff.1 hb).1 (fun e=>by have:=hlt g e.symm;have:=h.gb;omega)).trans hb⟩,keptNe h.row hx.g (apSym h.dIS),
  hr,keptNe h.enr hx.g h.dSE,apSym (apNew hx.at_ (fun k e=>(h.row.lt k e).2) (apSym h.dIS)),h.dIE,apNew hx.at_ (fun k e=>(h.enr.lt k e).2) h.dSE⟩
theorem Cod3.bind(h:Cod3 w base g cI cS vI vS vE l sl env W)(hx:Ext W W1 vE v1)(hr:W1.ownsRow base 106 2 v1 env1.length (enV env1)):Cod3 w base g cI cS vI vS v1 l sl env1 W1:=by
 obtain⟨ty,hb⟩:=h.blk
 have hlt:∀k,vE.ownBlock=some k→base≤k:=fun k e=>(h.enr.lt k e).1
 exact⟨World.Grows.grown h.gr hx.g (fun k e=>by have:=hlt k e;have:=h.wg;have:=h.gb;omega),h.wg,h.gb,Nat.le_trans h.bW hx.g.size,
  ⟨ty,(hx.g.block g (Array.getElem?_eq_some_iff.1 hb).1 (fun e=>by have:=hlt g e.symm;have:=h.gb;omega)).trans hb⟩,keptNe h.row hx.g (apSym h.dIE),
  keptNe h.slr hx.g (apSym h.dSE),hr,h.dIS,apSym (apNew hx.at_ (fun k e=>(h.row.lt k e).2) (apSym h.dIE)),apSym (apNew hx.at_ (fun k e=>(h.slr.lt k e).2) (apSym h.dSE))⟩
theorem Cod3.ins(h:Cod3 w base g cI cS vI vS vE l sl env W)(x:Ins){gg n c H:Nat}(hn:n=l.length+1)(hg:W.Grows W')(hgr:W'.grownBy W1 vI.ownBlock)(ha:vI.ownBlock=some gg∨gg=H)(hH:W.heap.size≤H)
 (ho:W1.ownsRow base 119 4 (.slice (some ⟨gg,0,none⟩) n c) n (insV l++[.int .i64 x.op,.int .i64 x.a,.int .i64 x.n,.int .i64 x.d])):Cod3 w base g cI cS (.slice (some ⟨gg,0,none⟩) n c) vS vE (l++[x]) sl env W1:=by
 subst hn
 refine h.lay (Ext.app hg hgr ha hH) ?_
 rw [←insV_snoc]at ho
 unfold LRow
 rw [List.length_append]
 exact ho
theorem Cod3.nm(h:Cod3 w base g cI cS vI vS vE l sl env W)(s:ByteArray){gg n c H:Nat}(hn:n=sl.length+1)(hg:W.Grows W')(hgr:W'.grownBy W1 vS.ownBlock)(ha:vS.ownBlock=some gg∨gg=H)(hH:W.heap.size≤H)
 (ho:W1.ownsRow base 9 1 (.slice (some ⟨gg,0,none⟩) n c) n (slV sl++[.string s])):Cod3 w base g cI cS vI (.slice (some ⟨gg,0,none⟩) n c) vE l (sl++[s]) env W1:=by
 subst hn
 refine h.slot (Ext.app hg hgr ha hH) ?_
 rw [List.length_append,slV,List.map_append]
 exact ho
theorem Cod3.en(h:Cod3 w base g cI cS vI vS vE l sl env W)(s:ByteArray)(d:Int){gg n c H:Nat}(hn:n=env.length+1)(hg:W.Grows W')(hgr:W'.grownBy W1 vE.ownBlock)(ha:vE.ownBlock=some gg∨gg=H)(hH:W.heap.size≤H)
 (ho:W1.ownsRow base 106 2 (.slice (some ⟨gg,0,none⟩) n c) n (enV env++[.string s,.int .i64 d])):Cod3 w base g cI cS vI vS (.slice (some ⟨gg,0,none⟩) n c) l sl (env++[(s,d)]) W1:=by
 subst hn
 refine h.bind (Ext.app hg hgr ha hH) ?_
 rw [List.length_append,enV,List.flatMap_append]
 exact ho
theorem Cod3.patch{gg n c:Nat}(h:Cod3 w base g cI cS (.slice (some ⟨gg,0,none⟩) n c) vS vE l sl env W)(hn:n=l.length)(i:Nat)(hi:i<l.length)(z:Int):Cod3 w base g cI cS (.slice (some ⟨gg,0,none⟩) n c) vS vE (setA l i z) sl env (W.setCell ⟨gg,i*4+1,none⟩ (.int .i64 z)):=by
 subst hn
 have hr:=h.row
 unfold LRow at hr
 obtain⟨h1,h2⟩:=hr.stored (i*4+1) (.int .i64 z)
 refine h.lay ⟨h2,.inl rfl⟩ ?_
 unfold LRow
 rw [←insV_set l i z hi,setA_len]
 exact h1
theorem Cod3.cell{gg n c:Nat}(h:Cod3 w base g cI cS (.slice (some ⟨gg,0,none⟩) n c) vS vE l sl env W)(hn:n=l.length)(i:Nat)(hi:i<l.length):(∃u,W.cell? ⟨gg,i*4+1,none⟩=some u)∧W.frozen? ⟨gg,i*4+1,none⟩=false:=by
 subst hn
 have hr:=h.row
 exact tz42
theorem Cod3.c0(h:Cod3 w base g cI cS vI vS vE l sl env W):W.cell? ⟨g,0,none⟩=some cI:=by obtain⟨ty,hb⟩:=h.blk;exact cell_of_row W g 0 _ _ _ hb
theorem Cod3.c1(h:Cod3 w base g cI cS vI vS vE l sl env W):W.cell? ⟨g,1,none⟩=some cS:=by obtain⟨ty,hb⟩:=h.blk;exact cell_of_row W g 1 _ _ _ hb
theorem Cod3.f(h:Cod3 w base g cI cS vI vS vE l sl env W)(j:Nat):W.frozen? ⟨g,j,none⟩=false:=by obtain⟨ty,hb⟩:=h.blk;exact Go.Joins.unfrozen_of_block hb j
theorem Cod3.lt(h:Cod3 w base g cI cS vI vS vE l sl env W):g<W.heap.size:=Nat.lt_of_lt_of_le h.gb h.bW
theorem rowForm3{B size n:Nat}{T:TypeId}{v:Value}{xs:List Value}(h:W.ownsRow B T size v n xs):∃a c,v= .slice a n c∧n≤c∧(n=0∨∃b,a=some ⟨b,0,none⟩∧v.ownBlock=some b∧B≤b∧b<W.heap.size):=by
 obtain⟨-,⟨rfl,h0⟩|⟨g,cap,cur,rfl,hb,hg,hnc,-⟩⟩:=h
 ·exact⟨none,0,by rw [h0],by omega,.inl h0⟩
 ·exact⟨_,_,rfl,hnc,.inr ⟨g,rfl,rfl,hb,(Array.getElem?_eq_some_iff.1 hg).1⟩⟩
theorem slV_get(sl:List ByteArray)(i:Nat)(h:i<sl.length):(slV sl)[i]? =some (.string (sl.getD i ByteArray.empty)):=by
 unfold slV;rw [List.getElem?_map,List.getElem?_eq_getElem h,List.getD_eq_getElem?_getD,List.getElem?_eq_getElem h];rfl
theorem Cod3.slIn{S:Nat→Prop}(h:Cod3 w base g cI cS vI vS vE l sl env W)(hl:sl.length≤1000)(hs:∀s∈sl,s.size≤maxLen)(hS:∀b,vS.ownBlock=some b→S b):SlIn S W vS sl:=by
 obtain⟨a,c,rfl,hc,h0⟩:=rowForm3 h.slr
 refine⟨hl,hs,a,c,hc,rfl,h0.imp id ?_⟩
 rintro⟨b,rfl,hb,-,hlt⟩
 refine⟨b,0,rfl,hS b hb,hlt,fun i hi=>?_⟩
 rw [Nat.zero_add]
 exact(h.slr.cellAt i (by omega)).trans (slV_get sl i hi)
theorem Cod3.pre(h:Cod3 w base g cI cS vI vS vE l sl env W)(hg:W.Grows W1)(hl:sl.length≤1000)(hs:∀s∈sl,s.size≤maxLen) :
 LPre (fun b=>(W.heap.size≤b∧b<W1.heap.size)∨vS.ownBlock=some b) W1.heap.size base W1 vI vS l sl:=by
 have h1:=h.grows hg
 refine⟨h1.row, ?_,Nat.le_refl _, ?_,h1.bW,h1.slIn hl hs fun b hb=>.inr hb⟩
 ·rintro b (⟨-,hb⟩|hb)
  ·exact hb
  ·exact(h1.slr.lt b hb).2
 ·rintro b (⟨hb,-⟩|hb) e
  ·have:=(h.row.lt b e.symm).2;omega
  ·exact h.dIS b e.symm hb
end
theorem Cod3.start{w W:World}{g:Nat}{ty:TypeId}(hg:w.Grows W)(hwg:w.heap.size≤g)(hb:W.heap[g]? =some (.cells #[.slice none 0 0,.slice none 0 0] ty (0,0))):Cod3 w W.heap.size g (.slice none 0 0) (.slice none 0 0) (.slice none 0 0) (.slice none 0 0) (.slice none 0 0) [] [] [] W:=
 ⟨hg,hwg,(Array.getElem?_eq_some_iff.1 hb).1,Nat.le_refl _,⟨ty,hb⟩,World.ownsRow_nil _ _ _ _,World.ownsRow_nil _ _ _ _,World.ownsRow_nil _ _ _ _,fun _ h=>(by cases h),fun _ h=>(by cases h),fun _ h=>(by cases h)⟩
structure GExt(g:Nat)(w w':World)(v v':Value):Prop where
 os:w'.os=w.os
 tape:w'.tape=w.tape
 output:w'.output=w.output
 size:w.heap.size≤w'.heap.size
 block:∀k,k<w.heap.size→some k≠v.ownBlock→k≠g→w'.heap[k]? =w.heap[k]?
 at_:v'.ownBlock=v.ownBlock∨∃b,v'.ownBlock=some b∧w.heap.size≤b
structure GPre(S:Nat→Prop)(N base g:Nat)(w:World)(v vs:Value)(l:List Ins)(sl:List ByteArray):Prop where
 pre:LPre S N base w v vs l sl
 blk:∃ty,w.heap[g]? =some (.cells #[v,vs] ty (0,0))
 gb:g<base
 gS:∀b,S b→b≠g
section
variable {S : Nat → Prop} {N base g : Nat} {w w1 w2 w' W : World} {v v1 v2 v' vs ve : Value} {l l1 l' : List Ins} {sl : List ByteArray} {e : Ex}
theorem GExt.of(hg:w.Grows w'):GExt g w w' v v:=⟨hg.below.os,hg.below.tape,hg.below.output,hg.below.size,fun k hk _ _=>hg.below.block k hk,.inl rfl⟩
theorem GExt.ext(h:Ext w w' v v'):GExt g w w' v v':=⟨h.g.os,h.g.tape,h.g.output,h.g.size,fun k hk hn _=>h.g.block k hk hn,h.at_⟩
theorem GExt.trans(h:GExt g w w1 v v1)(h2:GExt g w1 w2 v1 v2):GExt g w w2 v v2:=by
 refine⟨h2.os.trans h.os,h2.tape.trans h.tape,h2.output.trans h.output,Nat.le_trans h.size h2.size,fun k hk hn hgk=>?_, ?_⟩
 ·refine(h2.block k (Nat.lt_of_lt_of_le hk h.size) (fun e=>?_) hgk).trans (h.block k hk hn hgk)
  rcases h.at_ with e1|⟨b,e1,hb⟩
  ·exact hn (e.trans e1)
  ·rw [e1]at e;cases e;omega
 ·rcases h2.at_ with e2|⟨b,e2,hb⟩
  ·exact tz63
  ·exact .inr ⟨b,e2,Nat.le_trans h.size hb⟩
theorem GExt.grows(hg:w.Grows w1)(h:GExt g w1 w2 v v'):GExt g w w2 v v':=(GExt.of hg).trans h
theorem GExt.set(h:GExt g w w1 v v')(j:Nat)(u:Value):GExt g w (w1.setCell ⟨g,j,none⟩ u) v v':=by
 have k:=grownSet w1 g j u
 exact⟨k.os.trans h.os,k.tape.trans h.tape,k.output.trans h.output,Nat.le_trans h.size k.size,fun b hb hn hgb=>(k.block b (Nat.lt_of_lt_of_le hb h.size) (fun e=>hgb (Option.some.inj e))).trans (h.block b hb hn hgb),h.at_⟩
theorem GPre.step(h:GPre S N base g w v vs l sl)(hx:GExt g w w' v v')(hr:LRow base w' v' l')(hb:∃ty,w'.heap[g]? =some (.cells #[v',vs] ty (0,0))):GPre S N base g w' v' vs l' sl:=by
 refine⟨⟨hr,h.pre.lt,Nat.le_trans h.pre.sz hx.size,fun b hb e=>?_,Nat.le_trans h.pre.bs hx.size, ?_⟩,hb,h.gb,h.gS⟩
 ·rcases hx.at_ with e1|⟨b',e1,hb'⟩
  ·exact h.pre.ap b hb (e.trans e1)
  ·rw [e1]at e;cases e;have:=h.pre.lt _ hb;have:=h.pre.sz;omega
 ·obtain⟨h1,h2,a,cap,h3,h4,h5⟩:=h.pre.sl
  refine⟨h1,h2,a,cap,h3,h4,h5.imp id ?_⟩
  rintro⟨b,off,ha,hS,hb,hc⟩
  exact⟨b,off,ha,hS,Nat.lt_of_lt_of_le hb hx.size,fun i hi=>(World.cell?_of_block (a:=⟨b,off+i,none⟩) (hx.block b hb (h.pre.ap b hS) (h.gS b hS))).trans (hc i hi)⟩
theorem GPre.grows(h:GPre S N base g w v vs l sl)(hg:w.Grows w'):GPre S N base g w' v vs l sl:=by
 obtain⟨ty,hb⟩:=h.blk
 exact h.step (GExt.of hg) (h.pre.row.grows hg) ⟨ty,(hg.below.block g (Array.getElem?_eq_some_iff.1 hb).1).trans hb⟩
theorem GPre.ex(h:GPre S N base g w v vs l sl)(hx:GExt g w w' v v')(hr:RepE S w e ve):RepE S w' e ve:=
 hr.keep hx.size fun b o hS hb=>World.cell?_of_block (a:=⟨b,o,none⟩) (hx.block b hb (h.pre.ap b hS) (h.gS b hS))
theorem GPre.far(hx:GExt g w w' v v'){b:Nat}(hb:b<w.heap.size)(hn:some b≠v.ownBlock)(hg:b≠g):w'.heap[b]? =w.heap[b]?∧some b≠v'.ownBlock:=by
 refine⟨hx.block b hb hn hg,fun e=>?_⟩
 rcases hx.at_ with e1|⟨b',e1,hb'⟩
 ·exact hn (e.trans e1)
 ·rw [e1]at e;cases e;omega
theorem GPre.new(h:GPre S N base g w v vs l sl):some w.heap.size≠v.ownBlock:=h.pre.new
theorem GPre.glt(h:GPre S N base g w v vs l sl):g<w.heap.size:=by obtain⟨ty,hb⟩:=h.blk;exact(Array.getElem?_eq_some_iff.1 hb).1
theorem GPre.c0(h:GPre S N base g w v vs l sl):w.cell? ⟨g,0,none⟩=some v:=by obtain⟨ty,hb⟩:=h.blk;exact cell_of_row w g 0 _ _ _ hb
theorem GPre.c1(h:GPre S N base g w v vs l sl):w.cell? ⟨g,1,none⟩=some vs:=by obtain⟨ty,hb⟩:=h.blk;exact cell_of_row w g 1 _ _ _ hb
theorem GPre.f(h:GPre S N base g w v vs l sl)(j:Nat):w.frozen? ⟨g,j,none⟩=false:=by obtain⟨ty,hb⟩:=h.blk;exact Go.Joins.unfrozen_of_block hb j
theorem GPre.put(h:GPre S N base g w v vs l sl)(hx:Ext w w1 v v1)(hr:LRow base w1 v1 l1):GPre S N base g (w1.setCell ⟨g,0,none⟩ v1) v1 vs l1 sl∧GExt g w (w1.setCell ⟨g,0,none⟩ v1) v v1:=by
 have hx1:=(GExt.ext (g:=g) hx).set 0 v1
 obtain⟨ty,hb⟩:=h.blk
 have hgv:some g≠v.ownBlock:=fun e=>by have:=(h.pre.row.lt g e.symm).1;have:=h.gb;omega
 have hb1:=(hx.g.block g (Array.getElem?_eq_some_iff.1 hb).1 hgv).trans hb
 refine⟨h.step hx1 ?_ ⟨ty,Go.Joins.block_setCell hb1 v1⟩,hx1⟩
 exact keptNe hr (grownSet w1 g 0 v1) (by rintro b ⟨⟩ e;have:=(hr.lt _ e).1;have:=h.gb;omega)
theorem GPre.ins(h:GPre S N base g w v vs l sl)(x:Ins){gg n c H:Nat}(hn:n=l.length+1)(hg:w.Grows W)(hgr:W.grownBy w1 v.ownBlock)(ha:v.ownBlock=some gg∨gg=H)(hH:w.heap.size≤H)
 (ho:w1.ownsRow base 119 4 (.slice (some ⟨gg,0,none⟩) n c) n (insV l++[.int .i64 x.op,.int .i64 x.a,.int .i64 x.n,.int .i64 x.d])) :
 GPre S N base g (w1.setCell ⟨g,0,none⟩ (.slice (some ⟨gg,0,none⟩) n c)) (.slice (some ⟨gg,0,none⟩) n c) vs (l++[x]) sl∧GExt g w (w1.setCell ⟨g,0,none⟩ (.slice (some ⟨gg,0,none⟩) n c)) v (.slice (some ⟨gg,0,none⟩) n c):=by
 subst hn
 refine h.put (Ext.app hg hgr ha hH) ?_
 rw [←insV_snoc]at ho
 unfold LRow
 rw [List.length_append]
 exact ho
theorem GPre.cell{gg c:Nat}(h:GPre S N base g w (.slice (some ⟨gg,0,none⟩) l.length c) vs l sl)(i:Nat)(hi:i<l.length*4):(∃u,w.cell? ⟨gg,i,none⟩=some u)∧w.frozen? ⟨gg,i,none⟩=false:=by
 have hr:=h.pre.row
 unfold LRow at hr
 refine⟨?_,hr.frozenAt _⟩
 have:=hr.cellAt i (by omega)
 rw [this,List.getElem?_eq_getElem (by rw [insV_len];omega)]
 exact⟨_,rfl⟩
theorem GPre.store{gg c:Nat}(h:GPre S N base g w (.slice (some ⟨gg,0,none⟩) l.length c) vs l sl)(i:Nat)(z:Int)(l':List Ins)(hl:l'.length=l.length)(hs:(insV l).set i (.int .i64 z)=insV l') :
 GPre S N base g (w.setCell ⟨gg,i,none⟩ (.int .i64 z)) (.slice (some ⟨gg,0,none⟩) l.length c) vs l' sl∧GExt g w (w.setCell ⟨gg,i,none⟩ (.int .i64 z)) (.slice (some ⟨gg,0,none⟩) l.length c) (.slice (some ⟨gg,0,none⟩) l.length c):=by
 have hr:=h.pre.row
 unfold LRow at hr
 obtain⟨h1,h2⟩:=hr.stored i (.int .i64 z)
 have hx:GExt g w (w.setCell ⟨gg,i,none⟩ (.int .i64 z)) (.slice (some ⟨gg,0,none⟩) l.length c) (.slice (some ⟨gg,0,none⟩) l.length c):=GExt.ext ⟨h2,.inl rfl⟩
 obtain⟨ty,hb⟩:=h.blk
 have hgv:some g≠(Value.slice (some ⟨gg,0,none⟩) l.length c).ownBlock:=fun e=>by have:=(h.pre.row.lt g e.symm).1;have:=h.gb;omega
 refine⟨h.step hx ?_ ⟨ty,(h2.block g (Array.getElem?_eq_some_iff.1 hb).1 hgv).trans hb⟩,hx⟩
 unfold LRow
 rw [hl,←hs]
 exact h1
theorem GPre.ready(h:GPre S N base g w v vs l sl)(hg:w.Grows W)(hgr:W.grownBy w1 v.ownBlock):w1.frozen? ⟨g,0,none⟩=false∧w1.cell? ⟨g,0,none⟩=some v∧g<w1.heap.size:=by
 obtain⟨ty,hb⟩:=h.blk
 have hgv:some g≠v.ownBlock:=fun e=>by have:=(h.pre.row.lt g e.symm).1;have:=h.gb;omega
 have hb1:=((grown_grows hg hgr).block g (Array.getElem?_eq_some_iff.1 hb).1 hgv).trans hb
 exact⟨Go.Joins.unfrozen_of_block hb1 0,cell_of_row w1 g 0 _ _ _ hb1,(Array.getElem?_eq_some_iff.1 hb1).1⟩
end
def GenR(r:Value)(S:Nat→Prop)(N base g:Nat)(w:World)(v vs:Value)(l':List Ins)(sl:List ByteArray)(e:Ending)(w':World):Prop:=∃a c,e= .returned r∧GPre S N base g w' (.slice a l'.length c) vs l' sl∧GExt g w w' v (.slice a l'.length c)
theorem emit_any{S:Nat→Prop}{N base g:Nat}{w:World}{v vs:Value}{l:List Ins}{sl:List ByteArray}(op a:Int)(h:GPre S N base g w v vs l sl)(hl:l.length≤1000000) :
 Calls Tryz.prog 70 #[.pointer (some ⟨g,0,none⟩),.int .i64 op,.int .i64 a] w (GenR (.int .i64 (l.length:Nat)) S N base g w v vs (l++[⟨op,a,0,0⟩]) sl):=by
 obtain⟨i0,hi,hz1,hz2,hz3⟩:=info_parts infoIn
 obtain⟨a1,c1,rfl⟩:=h.pre.row.form
 have HP:=Lib.hid h
 have HL:=Lib.hid hl
 have x0:=h.c0
 have hgs:=h.glt
 clear h
 go_enter Tryz.func70,Tryz.ntmps70
 go_wp2_with (at_builtin;refine wpList_append_lies _ rfl _ _ 55 rfl base 119 i0 _ 4 32 Tryz.underlying55 hi hz1 hz2 hz3 rfl (by decide) (.slice a1 l.length c1) l.length (insV l) rfl (HP.out.pre.row.grows growsR) ⟨_,0,none⟩ 1 1 [.int .i64 op,.int .i64 a,.int .i64 0,.int .i64 0] rfl rfl (news_cells _ [.int .i64 op,.int .i64 a,.int .i64 0,.int .i64 0] _ _ (by simp)) (by intro u hu;simp at hu;rcases hu with rfl|rfl|rfl|rfl<;>rfl) (by decide) (by unfold maxLen;have:=HL.out;omega) (by have:=HL.out;omega) (by have:=HP.out.pre.bs;simp;omega) _ rfl ?_)
 intro gg cap w1 hown hgrow hgg hgl
 obtain⟨k1,k2,k3⟩:=HP.out.ready growsR hgrow
 have HE:=Lib.hid (HP.out.ins ⟨op,a,0,0⟩ (n:=l.length+1) rfl growsR hgrow hgg (by first|omega|(simp<;>omega)) hown)
 clear hown hgrow hgg hgl
 go_wp2_with fail
 go_returns
 refine⟨some ⟨gg,0,none⟩,cap,rfl, ?_⟩
 rw [List.length_append]
 exact HE.out
theorem patch_any{S:Nat→Prop}{N base g:Nat}{w:World}{v vs:Value}{l:List Ins}{sl:List ByteArray}(q c at_:Nat)(h:GPre S N base g w v vs l sl)(hl:l.length≤1000000)(hq:w.cell? ⟨q,0,none⟩=some (.int .i64 (at_:Nat)))(hat:at_<l.length) :
 Calls Tryz.prog 72 #[.pointer (some ⟨g,0,none⟩),.slice (some ⟨q,0,none⟩) 1 c] w (GenR (.tuple #[]) S N base g w v vs (setA l at_ (l.length:Nat)) sl):=by
 obtain⟨gg,cap,rfl,-,-⟩:=World.ownsRow.form h.pre.row (by omega)
 have HP:=Lib.hid h
 have x0:=h.c0
 have hgs:=h.glt
 obtain⟨⟨u,z1⟩,z2⟩:=h.cell (at_*4+1) (by omega)
 have d1:(at_:Int)<(l.length:Int):=by omega
 have HE:=Lib.hid (h.store (at_*4+1) (l.length:Nat) (setA l at_ (l.length:Nat)) (setA_len _ _ _) (insV_set l at_ _ hat))
 clear h
 go_enter Tryz.func72,Tryz.ntmps72
 go_wp2_with fail
 go_loopw [8] (fun v8 wr=>(v8= .int .i64 0∧wr=w)∨(v8= .int .i64 1∧wr=(w.setCell ⟨gg,at_*4+1,none⟩ (.int .i64 (l.length:Nat))).drew)) (fun v8 _=>1-(intOf v8).toNat)
 case atStart=>exact .inl ⟨rfl,rfl⟩
 case round=>
  rcases hrel with ⟨rfl,rfl⟩|⟨rfl,rfl⟩
  ·have hzl:=World.block_lt_of_cell? _ _ z1
   have hql:=World.block_lt_of_cell? _ _ hq
   go_wp2_with fail
   go_region
   go_wp2_with fail
   go_roundw
   case rel=>exact .inr ⟨by go_num,by first|rfl|trivial⟩
   case measure=>simp [intOf]
  ·go_wp2_with fail
   go_returns
   refine⟨some ⟨gg,0,none⟩,cap,rfl, ?_⟩
   rw [setA_len]
   exact⟨HE.out.1.grows growsR,HE.out.2.trans (GExt.of growsR)⟩
theorem operC_any(op:Int)(h:0≤op∧op≤100)(w:World):Calls Tryz.prog 155 #[.int .i64 op] w fun e w'=>e= .returned (.int .i64 (mopF op))∧w=w':=by
 have HM:=Lib.hid (show mopF op=_ from rfl)
 by_cases h4:op=4
 ·subst h4
  exact tz43
 by_cases h5:op=5
 ·subst h5
  exact tz43
 by_cases h6:op=6
 ·subst h6
  exact tz43
 by_cases h19:op=19
 ·subst h19
  exact tz43
 by_cases h20:op=20
 ·subst h20
  exact tz43
 have b4:(op==4)=false:=by simpa using h4
 have b5:(op==5)=false:=by simpa using h5
 have b6:(op==6)=false:=by simpa using h6
 have b19:(op==19)=false:=by simpa using h19
 have b20:(op==20)=false:=by simpa using h20
 have HE:=Lib.hid (show mopF op=op-7+9 by unfold mopF;rw [if_neg h4,if_neg h5,if_neg h6,if_neg h19,if_neg h20];omega)
 clear h4 h5 h6 h19 h20 HM
 have w1:IntKind.i64.wrap (op-7)=op-7:=IntWalk.i64_in _ (by omega)
 have w2:IntKind.i64.wrap (op-7+9)=op-7+9:=IntWalk.i64_in _ (by omega)
 go_enter Tryz.func155,Tryz.ntmps155
 go_wp2_with fail
 go_returns
 exact⟨by rw [HE.out];rfl,rfl⟩
structure GSt(S:Nat→Prop)(N base g:Nat)(Wb wr:World)(v vr vs:Value)(L:List Ins)(sl:List ByteArray)(e:Ex)(ea:Option Addr)(ec:Nat):Prop where
 pre:GPre S N base g wr vr vs L sl
 ext:GExt g Wb wr v vr
 ex:RepE S wr e (.slice ea e.args.length ec)
def GStP(S:Nat→Prop)(N base g:Nat)(Wb:World)(v vs:Value)(L:List Ins)(sl:List ByteArray)(e:Ex)(ea:Option Addr)(ec:Nat)(rv:Value)(r:Ending)(w':World):Prop:=∃a c,r= .returned rv∧GSt S N base g Wb w' v (.slice a L.length c) vs L sl e ea ec
def GenOK(sl:List ByteArray)(e:Ex):Prop:=∀(S:Nat→Prop) (N base g:Nat) (w:World) (v vs ve:Value) (l:List Ins),GPre S N base g w v vs l sl→RepE S w e ve→l.length+(codeF (slK sl) e l.length).length≤1000000→
 Calls Tryz.prog 107 #[.pointer (some ⟨g,0,none⟩),exV e ve] w (GenR (.tuple #[]) S N base g w v vs (l++codeF (slK sl) e l.length) sl)
section
variable {S : Nat → Prop} {N base g : Nat} {Wb wr w1 W : World} {v vr vs : Value} {L : List Ins} {sl : List ByteArray} {e : Ex} {ea : Option Addr} {ec : Nat}
theorem GSt.next{v1:Value}{L1:List Ins}(h:GSt S N base g Wb wr v vr vs L sl e ea ec)(hp:GPre S N base g w1 v1 vs L1 sl)(hx:GExt g wr w1 vr v1):GSt S N base g Wb w1 v v1 vs L1 sl e ea ec:=
 ⟨hp,h.ext.trans hx,h.pre.ex hx h.ex⟩
theorem GSt.grows(h:GSt S N base g Wb wr v vr vs L sl e ea ec)(hg:wr.Grows W):GSt S N base g Wb W v vr vs L sl e ea ec:=h.next (h.pre.grows hg) (GExt.of hg)
theorem GSt.emit(h:GSt S N base g Wb wr v vr vs L sl e ea ec)(op a:Int)(hl:L.length≤1000000) :
 Calls Tryz.prog 70 #[.pointer (some ⟨g,0,none⟩),.int .i64 op,.int .i64 a] wr (GStP S N base g Wb v vs (L++[⟨op,a,0,0⟩]) sl e ea ec (.int .i64 (L.length:Nat))):=
 (emit_any op a h.pre hl).mono fun _ _ ⟨a,c,he,hp,hx⟩=>⟨a,c,he,h.next hp hx⟩
theorem GSt.patch(h:GSt S N base g Wb wr v vr vs L sl e ea ec)(q c at_:Nat)(hl:L.length≤1000000)(hq:wr.cell? ⟨q,0,none⟩=some (.int .i64 (at_:Nat)))(hat:at_<L.length) :
 Calls Tryz.prog 72 #[.pointer (some ⟨g,0,none⟩),.slice (some ⟨q,0,none⟩) 1 c] wr (GStP S N base g Wb v vs (setA L at_ (L.length:Nat)) sl e ea ec (.tuple #[])):=
 (patch_any q c at_ h.pre hl hq hat).mono fun _ _ ⟨a,c,he,hp,hx⟩=>⟨a,c,he,h.next hp hx⟩
theorem GSt.call(h:GSt S N base g Wb wr v vr vs L sl e ea ec)(k:Nat)(va:Value)(hva:RepE S wr (e.arg k) va)(hk:GenOK sl (e.arg k))(hl:L.length+(codeF (slK sl) (e.arg k) L.length).length≤1000000) :
 Calls Tryz.prog 107 #[.pointer (some ⟨g,0,none⟩),exV (e.arg k) va] wr (GStP S N base g Wb v vs (L++codeF (slK sl) (e.arg k) L.length) sl e ea ec (.tuple #[])):=
 (hk S N base g wr vr vs va L h.pre hva hl).mono fun _ _ ⟨a,c,he,hp,hx⟩=>⟨a,c,he,h.next hp hx⟩
theorem GSt.box{w0:World}{o:Obj}(h:GSt S N base g (w0.alloc o) wr v vr vs L sl e ea ec)(hn:some w0.heap.size≠v.ownBlock)(hg:w0.heap.size≠g):wr.heap[w0.heap.size]? =some o:=
 (GPre.far h.ext (by simp) hn hg).1.trans (heap_alloc_new _ _)
theorem GSt.arg(h:GSt S N base g Wb wr v vr vs L sl e ea ec)(hn:0<e.args.length):∃b off,ea=some ⟨b,off,none⟩∧b<wr.heap.size∧
 ∀k,k<e.args.length→∃ak ck,ExAt wr b (off+k*6) (e.arg k) (.slice ak (e.arg k).args.length ck)∧RepE S wr (e.arg k) (.slice ak (e.arg k).args.length ck):=h.ex.args9 hn
theorem GSt.done{w0:World}{rv:Value}{a:Option Addr}{c:Nat}(hg:w0.Grows Wb)(h:GSt S N base g Wb wr v (.slice a L.length c) vs L sl e ea ec):GenR rv S N base g w0 v vs L sl (.returned rv) wr:=⟨a,c,rfl,h.pre,GExt.grows hg h.ext⟩
end
theorem insV_last2(l:List Ins)(o a x y z:Int):(insV (l++[⟨o,a,x,y⟩])).set (l.length*4+2) (.int .i64 z)=insV (l++[⟨o,a,z,y⟩]):=by
 exact tz53
theorem insV_last3(l:List Ins)(o a x y z:Int):(insV (l++[⟨o,a,x,y⟩])).set (l.length*4+3) (.int .i64 z)=insV (l++[⟨o,a,x,z⟩]):=by
 exact tz53
theorem gx_lit{S:Nat→Prop}{N base g:Nat}{w:World}{v vs ve:Value}{l:List Ins}{sl:List ByteArray}(n d m:Int)(s:ByteArray)(h:GPre S N base g w v vs l sl)(hl:l.length≤1000000) :
 Calls Tryz.prog 107 #[.pointer (some ⟨g,0,none⟩),.agg #[.int .i64 1,.int .i64 n,.int .i64 d,.int .i64 m,.string s,ve]] w (GenR (.tuple #[]) S N base g w v vs (l++[⟨1,m,n,d⟩]) sl):=by
 have HE:=Lib.hid (emit_any 1 m (h.grows (w':=w.alloc (.cells #[.int .i64 1,.int .i64 n,.int .i64 d,.int .i64 m,.string s,ve] 27)) growsR) hl)
 have HN:=Lib.hid h.new
 have HG:=Lib.hid h.glt
 have HL:=Lib.hid hl
 clear h hl
 go_enter Tryz.func107,Tryz.ntmps107
 go_upto_region 10 with (go_at_call 70;refine HE.out.mono ?_;rintro e' w1 ⟨a1,c1,rfl,hp,hx⟩)
 have hbx:=(GPre.far hx (b:=w.heap.size) (by simp) HN.out (by have:=HG.out;omega)).1.trans (heap_alloc_new _ _)
 have hbl:=(Array.getElem?_eq_some_iff.1 hbx).1
 have x1:=cell_of_row w1 _ 1 _ _ _ hbx
 have x2:=cell_of_row w1 _ 2 _ _ _ hbx
 clear hbx
 obtain⟨gg,cap,e1,-,-⟩:=World.ownsRow.form hp.pre.row (by simp)
 cases e1
 have g0:=hp.c0
 have hgl:=hp.glt
 obtain⟨⟨u2,z2⟩,f2⟩:=hp.cell (l.length*4+2) (by simp;omega)
 obtain⟨⟨u3,z3⟩,f3⟩:=hp.cell (l.length*4+3) (by simp;omega)
 have hzl:=World.block_lt_of_cell? _ _ z2
 obtain⟨hp2,hx2⟩:=hp.store (l.length*4+2) n (l++[⟨1,m,n,0⟩]) (by simp) (insV_last2 l 1 m 0 0 n)
 have hp2':GPre S N base g (w1.setCell ⟨gg,l.length*4+2,none⟩ (.int .i64 n)) (.slice (some ⟨gg,0,none⟩) (l++[(⟨1,m,n,0⟩:Ins)]).length c1) vs (l++[⟨1,m,n,0⟩]) sl:=by simpa using hp2
 obtain⟨hp3,hx3⟩:=hp2'.store (l.length*4+3) d (l++[⟨1,m,n,d⟩]) (by simp) (insV_last3 l 1 m n 0 d)
 have HF:Hid (GenR (.tuple #[]) S N base g w v vs (l++[⟨1,m,n,d⟩]) sl (.returned (.tuple #[])) ((w1.setCell ⟨gg,l.length*4+2,none⟩ (.int .i64 n)).setCell ⟨gg,l.length*4+3,none⟩ (.int .i64 d))):=Lib.hid (by
  refine⟨some ⟨gg,0,none⟩,c1,rfl,by simpa using hp3, ?_⟩
  have k2:GExt g w1 (w1.setCell ⟨gg,l.length*4+2,none⟩ (.int .i64 n)) (.slice (some ⟨gg,0,none⟩) (l++[(⟨1,m,n,d⟩:Ins)]).length c1) (.slice (some ⟨gg,0,none⟩) (l++[(⟨1,m,n,d⟩:Ins)]).length c1):=by simpa using hx2
  have k3:GExt g (w1.setCell ⟨gg,l.length*4+2,none⟩ (.int .i64 n)) ((w1.setCell ⟨gg,l.length*4+2,none⟩ (.int .i64 n)).setCell ⟨gg,l.length*4+3,none⟩ (.int .i64 d)) (.slice (some ⟨gg,0,none⟩) (l++[(⟨1,m,n,d⟩:Ins)]).length c1) (.slice (some ⟨gg,0,none⟩) (l++[(⟨1,m,n,d⟩:Ins)]).length c1):=by simpa using hx3
  have k1:GExt g w w1 v (.slice (some ⟨gg,0,none⟩) (l++[(⟨1,m,n,d⟩:Ins)]).length c1):=GExt.grows (w1:=w.alloc (.cells #[.int .i64 1,.int .i64 n,.int .i64 d,.int .i64 m,.string s,ve] 27)) growsR (by simpa using hx)
  exact(k1.trans k2).trans k3)
 clear hp hx hp2 hx2 hp2' hp3 hx3
 simp only [List.length_append,List.length_cons,List.length_nil,Nat.zero_add]at g0
 have d1:(l.length:Int)<(l.length:Int)+1:=by omega
 go_region
 go_wp2_with fail
 go_returns
 obtain⟨a9,c9,-,k1,k2⟩:=HF.out
 exact⟨a9,c9,rfl,k1.grows growsR,k2.trans (GExt.of growsR)⟩
theorem gx_best{S:Nat→Prop}{N base g:Nat}{w:World}{v vs ve:Value}{l:List Ins}{sl:List ByteArray}(n d m:Int)(s:ByteArray)(h:GPre S N base g w v vs l sl)(hl:l.length≤1000000) :
 Calls Tryz.prog 107 #[.pointer (some ⟨g,0,none⟩),.agg #[.int .i64 3,.int .i64 n,.int .i64 d,.int .i64 m,.string s,ve]] w (GenR (.tuple #[]) S N base g w v vs (l++[⟨5,n,0,0⟩]) sl):=by
 have HE:=Lib.hid (emit_any 5 n (h.grows (w':=w.alloc (.cells #[.int .i64 3,.int .i64 n,.int .i64 d,.int .i64 m,.string s,ve] 27)) growsR) hl)
 clear h hl
 go_enter Tryz.func107,Tryz.ntmps107
 go_wp2_with (go_at_call 70;refine HE.out.mono ?_;rintro e' w1 ⟨a1,c1,rfl,hp,hx⟩;have HP:=Lib.hid hp;have HX:=Lib.hid hx;clear hp hx)
 go_returns
 exact⟨a1,c1,rfl,HP.out,GExt.grows growsR HX.out⟩
def InsPC(w:World)(e:Ending)(w':World):Prop:=∃g,e= .returned (.slice (some ⟨g,0,none⟩) 11 11)∧w.Grows w'∧∃ty,w'.heap[g]? =some (.cells inpA ty (0,0))
theorem InputsC_any(w:World):Calls Tryz.prog 153 #[] w (InsPC w):=by
 go_enter Tryz.func153,Tryz.ntmps153
 go_wp2_with (go_at_call 191;refine(inputs2_any _).mono ?_;rintro e' w' ⟨rfl,bs,d,rfl⟩;unfold inpA)
 go_returns
 exact⟨_,rfl,growsR,_,heap_new _ _ _ (by simp)⟩
def inpL:List ByteArray:=(List.range 11).map inpNm
theorem inpL_len:inpL.length=11:=by unfold inpL;simp
theorem inpL_get{k:Nat}(h:k<11):inpL.getD k ByteArray.empty=inpNm k:=by
 unfold inpL;rw [List.getD_eq_getElem?_getD,List.getElem?_map,List.getElem?_range h];rfl
theorem inpL_idx(s:ByteArray):idxS inpL s=inpI s:=by
 cases hk:inpK s with
 |some k=>
  obtain⟨h1,h2⟩:=inpK_some hk
  rw [idxS_at (k:=k) (by rw [inpL_len];exact h1) ((inpL_get h1).trans h2) fun j hj e=>by
   rw [inpL_get (by omega)]at e
   have:=inpK_at (by omega) e
   rw [hk]at this;cases this;omega]
  unfold inpI;rw [hk]
 |none=>
  rw [idxS_no fun j hj e=>by
   rw [inpL_len]at hj
   rw [inpL_get hj]at e
   have:=inpK_at hj e
   rw [hk]at this;cases this]
  unfold inpI;rw [hk]
theorem ins_txt{w:World}{g:Nat}{ty:TypeId}(h:w.heap[g]? =some (.cells inpA ty (0,0))):TxtAt w (.slice (some ⟨g,0,none⟩) 11 11) inpL:=by
 refine⟨by rw [inpL_len];omega,some ⟨g,0,none⟩,11,by rw [inpL_len],.inr ⟨g,0,rfl,(Array.getElem?_eq_some_iff.1 h).1,fun i hi=>?_⟩⟩
 rw [inpL_len]at hi
 rw [Nat.zero_add,inpL_get hi]
 exact(cell_of_row w g i _ _ _ h).trans (inpA_get i hi)
theorem SlIn.txt{S:Nat→Prop}{w:World}{v:Value}{sl:List ByteArray}(h:SlIn S w v sl):TxtAt w v sl:=by
 obtain⟨h1,-,a,c,-,h4,h5⟩:=h
 refine⟨h1,a,c,h4,h5.imp id ?_⟩
 rintro⟨b,off,ha,-,hb,hc⟩
 exact⟨b,off,ha,hb,hc⟩
theorem TxtAt.grows{w w':World}{v:Value}{l:List ByteArray}(h:TxtAt w v l)(hg:w.Grows w'):TxtAt w' v l:=by
 obtain⟨h1,a,c,h4,h5⟩:=h
 refine⟨h1,a,c,h4,h5.imp id ?_⟩
 rintro⟨b,off,ha,hb,hc⟩
 exact⟨b,off,ha,Nat.lt_of_lt_of_le hb hg.below.size,fun i hi=>(World.cell?_of_block (a:=⟨b,off+i,none⟩) (hg.below.block b hb)).trans (hc i hi)⟩
theorem TxtAt.form{w:World}{v:Value}{l:List ByteArray}(h:TxtAt w v l):∃a c,v= .slice a l.length c:=by obtain⟨-,a,c,h,-⟩:=h;exact⟨a,c,h⟩
theorem gx_if{S:Nat→Prop}{N base g:Nat}{w:World}{v vs ve:Value}{l:List Ins}{sl:List ByteArray}(e:Ex)(hop:e.op=21)(hal:e.args.length=3)
 (hIH:∀k,k<e.args.length→GenOK sl (e.arg k)) (h:GPre S N base g w v vs l sl) (hr:RepE S w e ve)
 (L1 L2 L3 L4 L5 L6:List Ins) (hL1:L1=l++codeF (slK sl) (e.arg 0) l.length) (hL2:L2=L1++[⟨22,0,0,0⟩]) (hL3:L3=L2++codeF (slK sl) (e.arg 1) L2.length) (hL4:L4=L3++[⟨21,0,0,0⟩]) (hL5:L5=setA L4 L1.length L4.length) (hL6:L6=L5++codeF (slK sl) (e.arg 2) L5.length) (hl:L6.length≤1000000) :
 Calls Tryz.prog 154 #[.pointer (some ⟨g,0,none⟩),exV e ve] w (GenR (.tuple #[]) S N base g w v vs (setA L6 L3.length L6.length) sl):=by
 obtain⟨ea,ec,rfl⟩:=hr.form0
 have n1:L1.length=l.length+(codeF (slK sl) (e.arg 0) l.length).length:=by rw [hL1,List.length_append]
 have n2:L2.length=L1.length+1:=by rw [hL2,List.length_append];rfl
 have n3:L2.length≤L3.length:=by rw [hL3,List.length_append];omega
 have n4:L4.length=L3.length+1:=by rw [hL4,List.length_append];rfl
 have n5:L5.length=L4.length:=by rw [hL5,setA_len]
 have n6:L5.length≤L6.length:=by rw [hL6,List.length_append];omega
 have h0:GSt S N base g ((w.alloc (.cells #[.int .i64 e.op,.int .i64 e.num,.int .i64 e.den,.int .i64 e.dim,.string e.name,.slice ea e.args.length ec] 27))) ((w.alloc (.cells #[.int .i64 e.op,.int .i64 e.num,.int .i64 e.den,.int .i64 e.dim,.string e.name,.slice ea e.args.length ec] 27))) v v vs l sl e ea ec:=⟨h.grows growsR,GExt.of (.refl _),hr.grows growsR⟩
 obtain⟨b,off,rfl,hbw,hx0⟩:=hr.args9 (by omega)
 obtain⟨ak0,ck0,⟨y00,y10,y20,y30,y40,y50⟩,hra0⟩:=hx0 0 (by omega)
 simp only [Nat.zero_mul,Nat.add_zero]at y00 y10 y20 y30 y40 y50
 have HC0:=Lib.hid (h0.call 0 _ (hra0.grows growsR) (hIH 0 (by omega)) (by omega))
 rw [←hL1]at HC0
 unfold exV at HC0
 have HNW:=Lib.hid h.new
 have HNG:Hid (w.heap.size≠g):=Lib.hid (by have:=h.glt;omega)
 have HAN:Hid (0<e.args.length):=Lib.hid (by omega)
 have HAE:=Lib.hid hal
 have HIH:=Lib.hid hIH
 have HLN:Hid (l.length≤L1.length∧L1.length+1=L2.length∧L2.length≤L3.length∧L3.length+1=L4.length∧L4.length=L5.length∧L5.length≤L6.length∧L6.length≤1000000):=Lib.hid (by omega)
 have HL2:=Lib.hid hL2
 have HL3:=Lib.hid hL3
 have HL4:=Lib.hid hL4
 have HL5:=Lib.hid hL5
 have HL6:=Lib.hid hL6
 have HL7:Hid (setA L6 L3.length (L6.length:Nat)=setA L6 L3.length (L6.length:Nat)):=Lib.hid rfl
 have dA0:(0:Int)<(e.args.length:Int):=by omega
 have dA1:(1:Int)<(e.args.length:Int):=by omega
 have dA2:(2:Int)<(e.args.length:Int):=by omega
 have q17:(e.op==17)=false:=by rw [hop];rfl
 have q18:(e.op==18)=false:=by rw [hop];rfl
 clear h hr hIH n1 n2 n3 n4 n5 n6 h0 hx0 hra0 hL1 hL2 hL3 hL4 hL5 hL6 hl hal hop
 unfold exV
 go_enter Tryz.func154,Tryz.ntmps154
 go_upto_region 2 with (go_at_call 107;refine HC0.out.mono ?_;rintro e' w1 ⟨a1,c1,rfl,h1⟩;have H1:=Lib.hid h1;clear h1)
 clear y00 y10 y20 y30 y40 y50
 have hbx1:=H1.out.box HNW.out HNG.out
 have x01:=cell_of_row w1 _ 0 _ _ _ hbx1
 have x41:=cell_of_row w1 _ 5 _ _ _ hbx1
 have hbl1:=(Array.getElem?_eq_some_iff.1 hbx1).1
 clear hbx1
 go_upto_region 3 with (go_at_call 70;refine(H1.out.emit 22 0 (by have:=HLN.out;omega)).mono ?_;rintro e' w2 ⟨a2,c2,rfl,h2⟩;rw [←HL2.out]at h2;have H2:=Lib.hid h2;clear h2)
 clear x01 x41 hbl1
 have hbx2:=H2.out.box HNW.out HNG.out
 have x02:=cell_of_row w2 _ 0 _ _ _ hbx2
 have x42:=cell_of_row w2 _ 5 _ _ _ hbx2
 have hbl2:=(Array.getElem?_eq_some_iff.1 hbx2).1
 clear hbx2
 obtain⟨b',off',hea,hb2,hx2⟩:=H2.out.arg HAN.out
 cases hea
 obtain⟨ak2,ck2,⟨y02,y12,y22,y32,y42,y52⟩,hra2⟩:=hx2 1 (by have:=HAE.out;omega)
 simp only [Nat.one_mul,Nat.reduceMul,Nat.add_assoc,Nat.reduceAdd]at y02 y12 y22 y32 y42 y52
 have HC2:=Lib.hid (H2.out.call 1 _ hra2 (HIH.out 1 (by have:=HAE.out;omega)) (by rw [←List.length_append,←HL3.out];have:=HLN.out;omega))
 rw [←HL3.out]at HC2
 unfold exV at HC2
 clear hx2 hra2
 go_upto_region 7 with (go_at_call 107;refine HC2.out.mono ?_;rintro e' w3 ⟨a3,c3,rfl,h3⟩;have H3:=Lib.hid h3;clear h3)
 clear y02 y12 y22 y32 y42 y52 hb2 x02 x42 hbl2
 have hbx3:=H3.out.box HNW.out HNG.out
 have x03:=cell_of_row w3 _ 0 _ _ _ hbx3
 have x43:=cell_of_row w3 _ 5 _ _ _ hbx3
 have hbl3:=(Array.getElem?_eq_some_iff.1 hbx3).1
 clear hbx3
 go_upto_region 8 with (go_at_call 70;refine(H3.out.emit 21 0 (by have:=HLN.out;omega)).mono ?_;rintro e' w4 ⟨a4,c4,rfl,h4⟩;rw [←HL4.out]at h4;have H4:=Lib.hid h4;clear h4)
 clear x03 x43 hbl3
 have hbx4:=H4.out.box HNW.out HNG.out
 have x04:=cell_of_row w4 _ 0 _ _ _ hbx4
 have x44:=cell_of_row w4 _ 5 _ _ _ hbx4
 have hbl4:=(Array.getElem?_eq_some_iff.1 hbx4).1
 clear hbx4
 go_upto_region 9 with (go_at_call 72;refine((H4.out.grows growsR).patch _ _ L1.length (by have:=HLN.out;omega) (cell_of_row _ _ 0 _ _ _ (heap_alloc_new _ _)) (by have:=HLN.out;omega)).mono ?_;rintro e' w5 ⟨a5,c5,rfl,h5⟩;rw [←HL5.out]at h5;have H5:=Lib.hid h5;clear h5)
 clear x04 x44 hbl4
 have hbx5:=H5.out.box HNW.out HNG.out
 have x05:=cell_of_row w5 _ 0 _ _ _ hbx5
 have x45:=cell_of_row w5 _ 5 _ _ _ hbx5
 have hbl5:=(Array.getElem?_eq_some_iff.1 hbx5).1
 clear hbx5
 obtain⟨b',off',hea,hb5,hx5⟩:=H5.out.arg HAN.out
 cases hea
 obtain⟨ak5,ck5,⟨y05,y15,y25,y35,y45,y55⟩,hra5⟩:=hx5 2 (by have:=HAE.out;omega)
 simp only [Nat.one_mul,Nat.reduceMul,Nat.add_assoc,Nat.reduceAdd]at y05 y15 y25 y35 y45 y55
 have HC5:=Lib.hid (H5.out.call 2 _ hra5 (HIH.out 2 (by have:=HAE.out;omega)) (by rw [←List.length_append,←HL6.out];have:=HLN.out;omega))
 rw [←HL6.out]at HC5
 unfold exV at HC5
 clear hx5 hra5
 go_upto_region 15 with (go_at_call 107;refine HC5.out.mono ?_;rintro e' w6 ⟨a6,c6,rfl,h6⟩;have H6:=Lib.hid h6;clear h6)
 clear y05 y15 y25 y35 y45 y55 hb5 x05 x45 hbl5
 have hbx6:=H6.out.box HNW.out HNG.out
 have x06:=cell_of_row w6 _ 0 _ _ _ hbx6
 have x46:=cell_of_row w6 _ 5 _ _ _ hbx6
 have hbl6:=(Array.getElem?_eq_some_iff.1 hbx6).1
 clear hbx6
 go_upto_region 15 with fail
 go_wp2_with (go_at_call 72;refine((H6.out.grows growsR).patch _ _ L3.length (by have:=HLN.out;omega) (cell_of_row _ _ 0 _ _ _ (heap_alloc_new _ _)) (by have:=HLN.out;omega)).mono ?_;rintro e' w7 ⟨a7,c7,rfl,h7⟩;have H7:=Lib.hid h7;clear h7)
 go_returns
 exact GSt.done growsR H7.out
theorem gx_and{S:Nat→Prop}{N base g:Nat}{w:World}{v vs ve:Value}{l:List Ins}{sl:List ByteArray}(e:Ex)(hop:e.op=17)(hal:e.args.length=2)
 (hIH:∀k,k<e.args.length→GenOK sl (e.arg k)) (h:GPre S N base g w v vs l sl) (hr:RepE S w e ve)
 (L1 L2 L3 L4 L5 L6:List Ins) (hL1:L1=l++codeF (slK sl) (e.arg 0) l.length) (hL2:L2=L1++[⟨22,0,0,0⟩]) (hL3:L3=L2++codeF (slK sl) (e.arg 1) L2.length) (hL4:L4=L3++[⟨21,0,0,0⟩]) (hL5:L5=setA L4 L1.length L4.length) (hL6:L6=L5++[⟨24,0,0,0⟩]) (hl:L6.length≤1000000) :
 Calls Tryz.prog 154 #[.pointer (some ⟨g,0,none⟩),exV e ve] w (GenR (.tuple #[]) S N base g w v vs (setA L6 L3.length L6.length) sl):=by
 obtain⟨ea,ec,rfl⟩:=hr.form0
 have n1:L1.length=l.length+(codeF (slK sl) (e.arg 0) l.length).length:=by rw [hL1,List.length_append]
 have n2:L2.length=L1.length+1:=by rw [hL2,List.length_append];rfl
 have n3:L2.length≤L3.length:=by rw [hL3,List.length_append];omega
 have n4:L4.length=L3.length+1:=by rw [hL4,List.length_append];rfl
 have n5:L5.length=L4.length:=by rw [hL5,setA_len]
 have n6:L5.length≤L6.length:=by rw [hL6,List.length_append];omega
 have h0:GSt S N base g ((w.alloc (.cells #[.int .i64 e.op,.int .i64 e.num,.int .i64 e.den,.int .i64 e.dim,.string e.name,.slice ea e.args.length ec] 27))) ((w.alloc (.cells #[.int .i64 e.op,.int .i64 e.num,.int .i64 e.den,.int .i64 e.dim,.string e.name,.slice ea e.args.length ec] 27))) v v vs l sl e ea ec:=⟨h.grows growsR,GExt.of (.refl _),hr.grows growsR⟩
 obtain⟨b,off,rfl,hbw,hx0⟩:=hr.args9 (by omega)
 obtain⟨ak0,ck0,⟨y00,y10,y20,y30,y40,y50⟩,hra0⟩:=hx0 0 (by omega)
 simp only [Nat.zero_mul,Nat.add_zero]at y00 y10 y20 y30 y40 y50
 have HC0:=Lib.hid (h0.call 0 _ (hra0.grows growsR) (hIH 0 (by omega)) (by omega))
 rw [←hL1]at HC0
 unfold exV at HC0
 have HNW:=Lib.hid h.new
 have HNG:Hid (w.heap.size≠g):=Lib.hid (by have:=h.glt;omega)
 have HAN:Hid (0<e.args.length):=Lib.hid (by omega)
 have HAE:=Lib.hid hal
 have HIH:=Lib.hid hIH
 have HLN:Hid (l.length≤L1.length∧L1.length+1=L2.length∧L2.length≤L3.length∧L3.length+1=L4.length∧L4.length=L5.length∧L5.length≤L6.length∧L6.length≤1000000):=Lib.hid (by omega)
 have HL2:=Lib.hid hL2
 have HL3:=Lib.hid hL3
 have HL4:=Lib.hid hL4
 have HL5:=Lib.hid hL5
 have HL6:=Lib.hid hL6
 have HL7:Hid (setA L6 L3.length (L6.length:Nat)=setA L6 L3.length (L6.length:Nat)):=Lib.hid rfl
 have dA0:(0:Int)<(e.args.length:Int):=by omega
 have dA1:(1:Int)<(e.args.length:Int):=by omega
 have q17:(e.op==17)=true:=by rw [hop];rfl
 have q18:(e.op==18)=false:=by rw [hop];rfl
 clear h hr hIH n1 n2 n3 n4 n5 n6 h0 hx0 hra0 hL1 hL2 hL3 hL4 hL5 hL6 hl hal hop
 unfold exV
 go_enter Tryz.func154,Tryz.ntmps154
 go_upto_region 2 with (go_at_call 107;refine HC0.out.mono ?_;rintro e' w1 ⟨a1,c1,rfl,h1⟩;have H1:=Lib.hid h1;clear h1)
 clear y00 y10 y20 y30 y40 y50
 have hbx1:=H1.out.box HNW.out HNG.out
 have x01:=cell_of_row w1 _ 0 _ _ _ hbx1
 have x41:=cell_of_row w1 _ 5 _ _ _ hbx1
 have hbl1:=(Array.getElem?_eq_some_iff.1 hbx1).1
 clear hbx1
 go_upto_region 3 with (go_at_call 70;refine(H1.out.emit 22 0 (by have:=HLN.out;omega)).mono ?_;rintro e' w2 ⟨a2,c2,rfl,h2⟩;rw [←HL2.out]at h2;have H2:=Lib.hid h2;clear h2)
 clear x01 x41 hbl1
 have hbx2:=H2.out.box HNW.out HNG.out
 have x02:=cell_of_row w2 _ 0 _ _ _ hbx2
 have x42:=cell_of_row w2 _ 5 _ _ _ hbx2
 have hbl2:=(Array.getElem?_eq_some_iff.1 hbx2).1
 clear hbx2
 obtain⟨b',off',hea,hb2,hx2⟩:=H2.out.arg HAN.out
 cases hea
 obtain⟨ak2,ck2,⟨y02,y12,y22,y32,y42,y52⟩,hra2⟩:=hx2 1 (by have:=HAE.out;omega)
 simp only [Nat.one_mul,Nat.reduceMul,Nat.add_assoc,Nat.reduceAdd]at y02 y12 y22 y32 y42 y52
 have HC2:=Lib.hid (H2.out.call 1 _ hra2 (HIH.out 1 (by have:=HAE.out;omega)) (by rw [←List.length_append,←HL3.out];have:=HLN.out;omega))
 rw [←HL3.out]at HC2
 unfold exV at HC2
 clear hx2 hra2
 go_upto_region 7 with (go_at_call 107;refine HC2.out.mono ?_;rintro e' w3 ⟨a3,c3,rfl,h3⟩;have H3:=Lib.hid h3;clear h3)
 clear y02 y12 y22 y32 y42 y52 hb2 x02 x42 hbl2
 have hbx3:=H3.out.box HNW.out HNG.out
 have x03:=cell_of_row w3 _ 0 _ _ _ hbx3
 have x43:=cell_of_row w3 _ 5 _ _ _ hbx3
 have hbl3:=(Array.getElem?_eq_some_iff.1 hbx3).1
 clear hbx3
 go_upto_region 8 with (go_at_call 70;refine(H3.out.emit 21 0 (by have:=HLN.out;omega)).mono ?_;rintro e' w4 ⟨a4,c4,rfl,h4⟩;rw [←HL4.out]at h4;have H4:=Lib.hid h4;clear h4)
 clear x03 x43 hbl3
 have hbx4:=H4.out.box HNW.out HNG.out
 have x04:=cell_of_row w4 _ 0 _ _ _ hbx4
 have x44:=cell_of_row w4 _ 5 _ _ _ hbx4
 have hbl4:=(Array.getElem?_eq_some_iff.1 hbx4).1
 clear hbx4
 go_upto_region 9 with (go_at_call 72;refine((H4.out.grows growsR).patch _ _ L1.length (by have:=HLN.out;omega) (cell_of_row _ _ 0 _ _ _ (heap_alloc_new _ _)) (by have:=HLN.out;omega)).mono ?_;rintro e' w5 ⟨a5,c5,rfl,h5⟩;rw [←HL5.out]at h5;have H5:=Lib.hid h5;clear h5)
 clear x04 x44 hbl4
 have hbx5:=H5.out.box HNW.out HNG.out
 have x05:=cell_of_row w5 _ 0 _ _ _ hbx5
 have x45:=cell_of_row w5 _ 5 _ _ _ hbx5
 have hbl5:=(Array.getElem?_eq_some_iff.1 hbx5).1
 clear hbx5
 go_upto_region 15 with (go_at_call 70;refine(H5.out.emit 24 0 (by have:=HLN.out;omega)).mono ?_;rintro e' w6 ⟨a6,c6,rfl,h6⟩;rw [←HL6.out]at h6;have H6:=Lib.hid h6;clear h6)
 clear x05 x45 hbl5
 have hbx6:=H6.out.box HNW.out HNG.out
 have x06:=cell_of_row w6 _ 0 _ _ _ hbx6
 have x46:=cell_of_row w6 _ 5 _ _ _ hbx6
 have hbl6:=(Array.getElem?_eq_some_iff.1 hbx6).1
 clear hbx6
 go_upto_region 15 with fail
 go_wp2_with (go_at_call 72;refine((H6.out.grows growsR).patch _ _ L3.length (by have:=HLN.out;omega) (cell_of_row _ _ 0 _ _ _ (heap_alloc_new _ _)) (by have:=HLN.out;omega)).mono ?_;rintro e' w7 ⟨a7,c7,rfl,h7⟩;have H7:=Lib.hid h7;clear h7)
 go_returns
 exact GSt.done growsR H7.out
theorem gx_or{S:Nat→Prop}{N base g:Nat}{w:World}{v vs ve:Value}{l:List Ins}{sl:List ByteArray}(e:Ex)(hop:e.op=18)(hal:e.args.length=2)
 (hIH:∀k,k<e.args.length→GenOK sl (e.arg k)) (h:GPre S N base g w v vs l sl) (hr:RepE S w e ve)
 (L1 L2 L3 L4 L5 L6:List Ins) (hL1:L1=l++codeF (slK sl) (e.arg 0) l.length) (hL2:L2=L1++[⟨22,0,0,0⟩]) (hL3:L3=L2++[⟨23,0,0,0⟩]) (hL4:L4=L3++[⟨21,0,0,0⟩]) (hL5:L5=setA L4 L1.length L4.length) (hL6:L6=L5++codeF (slK sl) (e.arg 1) L5.length) (hl:L6.length≤1000000) :
 Calls Tryz.prog 154 #[.pointer (some ⟨g,0,none⟩),exV e ve] w (GenR (.tuple #[]) S N base g w v vs (setA L6 L3.length L6.length) sl):=by
 obtain⟨ea,ec,rfl⟩:=hr.form0
 have n1:L1.length=l.length+(codeF (slK sl) (e.arg 0) l.length).length:=by rw [hL1,List.length_append]
 have n2:L2.length=L1.length+1:=by rw [hL2,List.length_append];rfl
 have n3:L2.length≤L3.length:=by rw [hL3,List.length_append];omega
 have n4:L4.length=L3.length+1:=by rw [hL4,List.length_append];rfl
 have n5:L5.length=L4.length:=by rw [hL5,setA_len]
 have n6:L5.length≤L6.length:=by rw [hL6,List.length_append];omega
 have h0:GSt S N base g ((w.alloc (.cells #[.int .i64 e.op,.int .i64 e.num,.int .i64 e.den,.int .i64 e.dim,.string e.name,.slice ea e.args.length ec] 27))) ((w.alloc (.cells #[.int .i64 e.op,.int .i64 e.num,.int .i64 e.den,.int .i64 e.dim,.string e.name,.slice ea e.args.length ec] 27))) v v vs l sl e ea ec:=⟨h.grows growsR,GExt.of (.refl _),hr.grows growsR⟩
 obtain⟨b,off,rfl,hbw,hx0⟩:=hr.args9 (by omega)
 obtain⟨ak0,ck0,⟨y00,y10,y20,y30,y40,y50⟩,hra0⟩:=hx0 0 (by omega)
 simp only [Nat.zero_mul,Nat.add_zero]at y00 y10 y20 y30 y40 y50
 have HC0:=Lib.hid (h0.call 0 _ (hra0.grows growsR) (hIH 0 (by omega)) (by omega))
 rw [←hL1]at HC0
 unfold exV at HC0
 have HNW:=Lib.hid h.new
 have HNG:Hid (w.heap.size≠g):=Lib.hid (by have:=h.glt;omega)
 have HAN:Hid (0<e.args.length):=Lib.hid (by omega)
 have HAE:=Lib.hid hal
 have HIH:=Lib.hid hIH
 have HLN:Hid (l.length≤L1.length∧L1.length+1=L2.length∧L2.length≤L3.length∧L3.length+1=L4.length∧L4.length=L5.length∧L5.length≤L6.length∧L6.length≤1000000):=Lib.hid (by omega)
 have HL2:=Lib.hid hL2
 have HL3:=Lib.hid hL3
 have HL4:=Lib.hid hL4
 have HL5:=Lib.hid hL5
 have HL6:=Lib.hid hL6
 have HL7:Hid (setA L6 L3.length (L6.length:Nat)=setA L6 L3.length (L6.length:Nat)):=Lib.hid rfl
 have dA0:(0:Int)<(e.args.length:Int):=by omega
 have dA1:(1:Int)<(e.args.length:Int):=by omega
 have q17:(e.op==17)=false:=by rw [hop];rfl
 have q18:(e.op==18)=true:=by rw [hop];rfl
 clear h hr hIH n1 n2 n3 n4 n5 n6 h0 hx0 hra0 hL1 hL2 hL3 hL4 hL5 hL6 hl hal hop
 unfold exV
 go_enter Tryz.func154,Tryz.ntmps154
 go_upto_region 2 with (go_at_call 107;refine HC0.out.mono ?_;rintro e' w1 ⟨a1,c1,rfl,h1⟩;have H1:=Lib.hid h1;clear h1)
 clear y00 y10 y20 y30 y40 y50
 have hbx1:=H1.out.box HNW.out HNG.out
 have x01:=cell_of_row w1 _ 0 _ _ _ hbx1
 have x41:=cell_of_row w1 _ 5 _ _ _ hbx1
 have hbl1:=(Array.getElem?_eq_some_iff.1 hbx1).1
 clear hbx1
 go_upto_region 3 with (go_at_call 70;refine(H1.out.emit 22 0 (by have:=HLN.out;omega)).mono ?_;rintro e' w2 ⟨a2,c2,rfl,h2⟩;rw [←HL2.out]at h2;have H2:=Lib.hid h2;clear h2)
 clear x01 x41 hbl1
 have hbx2:=H2.out.box HNW.out HNG.out
 have x02:=cell_of_row w2 _ 0 _ _ _ hbx2
 have x42:=cell_of_row w2 _ 5 _ _ _ hbx2
 have hbl2:=(Array.getElem?_eq_some_iff.1 hbx2).1
 clear hbx2
 go_upto_region 7 with (go_at_call 70;refine(H2.out.emit 23 0 (by have:=HLN.out;omega)).mono ?_;rintro e' w3 ⟨a3,c3,rfl,h3⟩;rw [←HL3.out]at h3;have H3:=Lib.hid h3;clear h3)
 clear x02 x42 hbl2
 have hbx3:=H3.out.box HNW.out HNG.out
 have x03:=cell_of_row w3 _ 0 _ _ _ hbx3
 have x43:=cell_of_row w3 _ 5 _ _ _ hbx3
 have hbl3:=(Array.getElem?_eq_some_iff.1 hbx3).1
 clear hbx3
 go_upto_region 8 with (go_at_call 70;refine(H3.out.emit 21 0 (by have:=HLN.out;omega)).mono ?_;rintro e' w4 ⟨a4,c4,rfl,h4⟩;rw [←HL4.out]at h4;have H4:=Lib.hid h4;clear h4)
 clear x03 x43 hbl3
 have hbx4:=H4.out.box HNW.out HNG.out
 have x04:=cell_of_row w4 _ 0 _ _ _ hbx4
 have x44:=cell_of_row w4 _ 5 _ _ _ hbx4
 have hbl4:=(Array.getElem?_eq_some_iff.1 hbx4).1
 clear hbx4
 go_upto_region 9 with (go_at_call 72;refine((H4.out.grows growsR).patch _ _ L1.length (by have:=HLN.out;omega) (cell_of_row _ _ 0 _ _ _ (heap_alloc_new _ _)) (by have:=HLN.out;omega)).mono ?_;rintro e' w5 ⟨a5,c5,rfl,h5⟩;rw [←HL5.out]at h5;have H5:=Lib.hid h5;clear h5)
 clear x04 x44 hbl4
 have hbx5:=H5.out.box HNW.out HNG.out
 have x05:=cell_of_row w5 _ 0 _ _ _ hbx5
 have x45:=cell_of_row w5 _ 5 _ _ _ hbx5
 have hbl5:=(Array.getElem?_eq_some_iff.1 hbx5).1
 clear hbx5
 obtain⟨b',off',hea,hb5,hx5⟩:=H5.out.arg HAN.out
 cases hea
 obtain⟨ak5,ck5,⟨y05,y15,y25,y35,y45,y55⟩,hra5⟩:=hx5 1 (by have:=HAE.out;omega)
 simp only [Nat.one_mul,Nat.reduceMul,Nat.add_assoc,Nat.reduceAdd]at y05 y15 y25 y35 y45 y55
 have HC5:=Lib.hid (H5.out.call 1 _ hra5 (HIH.out 1 (by have:=HAE.out;omega)) (by rw [←List.length_append,←HL6.out];have:=HLN.out;omega))
 rw [←HL6.out]at HC5
 unfold exV at HC5
 clear hx5 hra5
 go_upto_region 15 with (go_at_call 107;refine HC5.out.mono ?_;rintro e' w6 ⟨a6,c6,rfl,h6⟩;have H6:=Lib.hid h6;clear h6)
 clear y05 y15 y25 y35 y45 y55 hb5 x05 x45 hbl5
 have hbx6:=H6.out.box HNW.out HNG.out
 have x06:=cell_of_row w6 _ 0 _ _ _ hbx6
 have x46:=cell_of_row w6 _ 5 _ _ _ hbx6
 have hbl6:=(Array.getElem?_eq_some_iff.1 hbx6).1
 clear hbx6
 go_upto_region 15 with fail
 go_wp2_with (go_at_call 72;refine((H6.out.grows growsR).patch _ _ L3.length (by have:=HLN.out;omega) (cell_of_row _ _ 0 _ _ _ (heap_alloc_new _ _)) (by have:=HLN.out;omega)).mono ?_;rintro e' w7 ⟨a7,c7,rfl,h7⟩;have H7:=Lib.hid h7;clear h7)
 go_returns
 exact GSt.done growsR H7.out
theorem gx_inp{S:Nat→Prop}{N base g:Nat}{w:World}{v vs ve:Value}{l:List Ins}{sl:List ByteArray}(n d m:Int)(s:ByteArray)(k:Nat)(hk:inpK s=some k)(h:GPre S N base g w v vs l sl)(hl:l.length≤1000000) :
 Calls Tryz.prog 107 #[.pointer (some ⟨g,0,none⟩),.agg #[.int .i64 2,.int .i64 n,.int .i64 d,.int .i64 m,.string s,ve]] w (GenR (.tuple #[]) S N base g w v vs (l++[⟨2,k,0,0⟩]) sl):=by
 have HII:Hid (idxS inpL s=(k:Int)):=Lib.hid (by rw [inpL_idx];unfold inpI;rw [hk])
 have HE:=Lib.hid (fun W (hg:w.Grows W)=>emit_any 2 k (h.grows hg) hl)
 have d1:(0:Int)≤(k:Int):=by omega
 clear h hl hk
 go_enter Tryz.func107,Tryz.ntmps107
 go_upto_region 12 with fail
 refine TS.begin [4] (World.Grows ((w.alloc (.cells #[.int .i64 2,.int .i64 n,.int .i64 d,.int .i64 m,.string s,ve] 27)))) (by kernel_rfl) (by kernel_rfl) grows_drew0 (fun hS=>?_)
 refine TS.wkB 1 hS ?_
 refine TS.wkB 2 hS ?_
 refine TS.one (i:=0) (by kernel_rfl) rfl (fun K1 hK1=>?_)
 have HK1:=Lib.hid hK1
 clear hK1 hS
 dsimp only [List.getElem_toArray,List.getElem_cons_succ,List.getElem_cons_zero]
 go_simp
 go_at_call 153
 refine(InputsC_any _).mono ?_
 rintro e' w' ⟨g0,rfl,⟨bs,d0,rfl⟩,ty,hh⟩
 have HH:=Lib.hid (ins_txt hh)
 clear hh
 refine TS.go HK1.out growsR (fun hS=>?_)
 clear HK1 K1
 (try simp only [nS])
 refine TS.one (i:=3) (by kernel_rfl) rfl (fun K1 hK1=>?_)
 have HK1:=Lib.hid hK1
 clear hK1 hS
 dsimp only [List.getElem_toArray,List.getElem_cons_succ,List.getElem_cons_zero]
 go_simp
 go_at_call 71
 refine(index_any inpL s _ _ (HH.out.grows growsR)).mono ?_
 rintro e' w' ⟨rfl,⟨bs1,d1,rfl⟩⟩
 rw [HII.out]
 refine TS.go HK1.out growsR (fun hS=>?_)
 clear HK1 K1
 (try simp only [nS])
 refine TS.weB 4 ?_
 clear hS
 go_wp2_with (go_at_call 70;refine(HE.out _ growsR).mono ?_;rintro e' w1 ⟨a1,c1,rfl,hp,hx⟩;have HP:=Lib.hid hp;have HX:=Lib.hid (GExt.grows (w:=w) growsR hx);clear hp hx)
 go_returns
 exact⟨a1,c1,rfl,HP.out,HX.out⟩
theorem gx_name{S:Nat→Prop}{N base g:Nat}{w:World}{v vs ve:Value}{l:List Ins}{sl:List ByteArray}(n d m:Int)(s:ByteArray)(hk:inpK s=none)(hs:s∈sl)(h:GPre S N base g w v vs l sl)(hl:l.length≤1000000) :
 Calls Tryz.prog 107 #[.pointer (some ⟨g,0,none⟩),.agg #[.int .i64 2,.int .i64 n,.int .i64 d,.int .i64 m,.string s,ve]] w (GenR (.tuple #[]) S N base g w v vs (l++[⟨3,slK sl s,0,0⟩]) sl):=by
 have HII:Hid (idxS inpL s= -1):=Lib.hid (by rw [inpL_idx];unfold inpI;rw [hk])
 have HIS:Hid (idxS sl s=(slK sl s:Nat)):=Lib.hid (by unfold idxS;rw [if_pos (List.any_eq_true.2 ⟨s,hs,by simp⟩)])
 have HT:=Lib.hid h.pre.sl.txt
 have HE:=Lib.hid (fun W (hg:w.Grows W)=>emit_any 3 (slK sl s:Nat) (h.grows hg) hl)
 have hgl:=h.glt
 have x1:=h.c1
 obtain⟨sa,sc,rfl⟩:=h.pre.sl.txt.form
 generalize(slK sl s)=k at *
 clear h hl hk hs
 go_enter Tryz.func107,Tryz.ntmps107
 go_upto_region 12 with fail
 refine TS.begin [4] (World.Grows ((w.alloc (.cells #[.int .i64 2,.int .i64 n,.int .i64 d,.int .i64 m,.string s,ve] 27)))) (by kernel_rfl) (by kernel_rfl) grows_drew0 (fun hS=>?_)
 refine TS.wkB 1 hS ?_
 refine TS.wkB 2 hS ?_
 refine TS.one (i:=0) (by kernel_rfl) rfl (fun K1 hK1=>?_)
 have HK1:=Lib.hid hK1
 clear hK1 hS
 dsimp only [List.getElem_toArray,List.getElem_cons_succ,List.getElem_cons_zero]
 go_simp
 go_at_call 153
 refine(InputsC_any _).mono ?_
 rintro e' w' ⟨g0,rfl,⟨bs,d0,rfl⟩,ty,hh⟩
 have HH:=Lib.hid (ins_txt hh)
 clear hh
 refine TS.go HK1.out growsR (fun hS=>?_)
 clear HK1 K1
 (try simp only [nS])
 refine TS.one (i:=3) (by kernel_rfl) rfl (fun K1 hK1=>?_)
 have HK1:=Lib.hid hK1
 clear hK1 hS
 dsimp only [List.getElem_toArray,List.getElem_cons_succ,List.getElem_cons_zero]
 go_simp
 go_at_call 71
 refine(index_any inpL s _ _ (HH.out.grows growsR)).mono ?_
 rintro e' w' ⟨rfl,⟨bs1,d1,rfl⟩⟩
 rw [HII.out]
 refine TS.go HK1.out growsR (fun hS=>?_)
 clear HK1 K1
 (try simp only [nS])
 refine TS.weB 4 ?_
 clear hS
 go_upto_region 15 with fail
 refine TS.begin [8] (World.Grows ((w.alloc (.cells #[.int .i64 2,.int .i64 n,.int .i64 d,.int .i64 m,.string s,ve] 27)))) (by kernel_rfl) (by kernel_rfl) growsR (fun hS=>?_)
 refine TS.wkB 0 hS ?_
 refine TS.wkB 1 hS ?_
 refine TS.wkB 2 hS ?_
 refine TS.wkB 3 hS ?_
 refine TS.wkB 4 hS ?_
 refine TS.wkB 5 hS ?_
 refine TS.wkB 6 hS ?_
 refine TS.one (i:=7) (by kernel_rfl) rfl (fun K1 hK1=>?_)
 have HK1:=Lib.hid hK1
 clear hK1 hS
 dsimp only [List.getElem_toArray,List.getElem_cons_succ,List.getElem_cons_zero]
 go_simp
 go_at_call 71
 refine(index_any sl s _ _ (HT.out.grows growsR)).mono ?_
 rintro e' w' ⟨rfl,⟨bs2,d2,rfl⟩⟩
 rw [HIS.out]
 refine TS.go HK1.out growsR (fun hS=>?_)
 clear HK1 K1
 (try simp only [nS])
 refine TS.one (i:=8) (by kernel_rfl) rfl (fun K1 hK1=>?_)
 have HK1:=Lib.hid hK1
 clear hK1 hS
 dsimp only [List.getElem_toArray,List.getElem_cons_succ,List.getElem_cons_zero]
 go_simp
 go_at_call 70
 refine(HE.out _ growsR).mono ?_
 rintro e' w1 ⟨a1,c1,rfl,hp,hx⟩
 have HP:=Lib.hid hp
 have HX:=Lib.hid (GExt.grows (w:=w) growsR hx)
 clear hp hx
 refine HK1.out _ _ (fun h=>absurd (by decide) h) (TS.done (by kernel_rfl) ?_)
 clear HK1 K1
 (try simp only [nS])
 go_wp2_with fail
 go_returns
 exact⟨a1,c1,rfl,HP.out,HX.out⟩
theorem gx_seq{S:Nat→Prop}{N base g:Nat}{w:World}{v vs ve:Value}{l:List Ins}{sl:List ByteArray}(e:Ex)(ho:0≤e.op∧e.op≤100)(o1:e.op≠1)(o2:e.op≠2)(o3:e.op≠3)(o17:e.op≠17)(o18:e.op≠18)(o21:e.op≠21)
 (hIH:∀k,k<e.args.length→GenOK sl (e.arg k)) (h:GPre S N base g w v vs l sl) (hr:RepE S w e ve) (hl:l.length+(seqC (codesF (slK sl) e.args) l.length).length+1≤1000000) (hal:e.args.length≤1000) :
 Calls Tryz.prog 107 #[.pointer (some ⟨g,0,none⟩),exV e ve] w (GenR (.tuple #[]) S N base g w v vs (l++(seqC (codesF (slK sl) e.args) l.length++[⟨mopF e.op,0,0,0⟩])) sl):=by
 obtain⟨ea,ec,rfl⟩:=hr.form0
 have h0:GSt S N base g ((w.alloc (.cells #[.int .i64 e.op,.int .i64 e.num,.int .i64 e.den,.int .i64 e.dim,.string e.name,.slice ea e.args.length ec] 27))) ((w.alloc (.cells #[.int .i64 e.op,.int .i64 e.num,.int .i64 e.den,.int .i64 e.dim,.string e.name,.slice ea e.args.length ec] 27))) v v vs l sl e ea ec:=⟨h.grows growsR,GExt.of (.refl _),hr.grows growsR⟩
 have HS0:=Lib.hid h0
 have HNW:=Lib.hid h.new
 have HNG:Hid (w.heap.size≠g):=Lib.hid (by have:=h.glt;omega)
 have HL:=Lib.hid hl
 have HIH:=Lib.hid hIH
 have q1:(e.op==1)=false:=by simpa using o1
 have q2:(e.op==2)=false:=by simpa using o2
 have q3:(e.op==3)=false:=by simpa using o3
 have q17:(e.op==17)=false:=by simpa using o17
 have q18:(e.op==18)=false:=by simpa using o18
 have q21:(e.op==21)=false:=by simpa using o21
 have HO:=Lib.hid ho
 clear hIH h hr hl o1 o2 o3 o17 o18 o21 h0 ho
 unfold exV
 go_enter Tryz.func107,Tryz.ntmps107
 go_wp2_with fail
 go_loopw [13] (fun v13 wr=>∃k:Nat,k≤e.args.length∧v13= .int .i64 k∧∃vr,Hid (GSt S N base g ((w.alloc (.cells #[.int .i64 e.op,.int .i64 e.num,.int .i64 e.den,.int .i64 e.dim,.string e.name,.slice ea e.args.length ec] 27))) wr v vr vs (l++seqC ((codesF (slK sl) e.args).take k) l.length) sl e ea ec)) (fun v13 _=>e.args.length-(intOf v13).toNat)
 case atStart=>exact⟨0,by omega,rfl,v,Lib.hid (by simpa [seqC]using HS0.out)⟩
 case round=>
  obtain⟨k,hk,rfl,vr,HST⟩:=hrel
  have hbx:=HST.out.box HNW.out HNG.out
  have x0:=cell_of_row wr _ 0 _ _ _ hbx
  have x5:=cell_of_row wr _ 5 _ _ _ hbx
  have hbl:=(Array.getElem?_eq_some_iff.1 hbx).1
  clear hbx
  by_cases hlt:k<e.args.length
  ·have d1:(k:Int)<(e.args.length:Int):=by omega
   obtain⟨b,off,rfl,hb,hx⟩:=HST.out.arg (by omega)
   obtain⟨ak,ck,⟨y0,y1,y2,y3,y4,y5⟩,hra⟩:=hx k hlt
   have hcl:=codesF_get (slK sl) e.args k hlt
   have hst:=seqC_take _ k l.length _ hcl
   have hsl:=seqC_lenT (codesF (slK sl) e.args) (k+1) l.length
   rw [hst,List.length_append]at hsl
   have hlen:(l++seqC ((codesF (slK sl) e.args).take k) l.length).length=l.length+(seqC ((codesF (slK sl) e.args).take k) l.length).length:=List.length_append
   have HC:=Lib.hid ((HST.out.grows (W:=((wr.alloc (.cells #[.int .i64 (e.arg k).op,.int .i64 (e.arg k).num,.int .i64 (e.arg k).den,.int .i64 (e.arg k).dim,.string (e.arg k).name,.slice ak (e.arg k).args.length ck] 27)))) growsR).call k _ (hra.grows growsR) (HIH.out k hlt) (by rw [hlen];have:=HL.out;show _+(codeF (slK sl) (e.args.getD k default) _).length≤_;omega))
   have heq:(l++seqC ((codesF (slK sl) e.args).take k) l.length)++codeF (slK sl) (e.arg k) (l++seqC ((codesF (slK sl) e.args).take k) l.length).length=l++seqC ((codesF (slK sl) e.args).take (k+1)) l.length:=by
    rw [hst,hlen,List.append_assoc];rfl
   have HLT:=Lib.hid hlt
   rw [heq]at HC
   unfold exV at HC
   generalize e.arg k=a at *
   clear hx hcl hst hsl hlen hk hlt hra heq HST
   go_wp2_with (go_at_call 107;refine HC.out.mono ?_;rintro e' w2 ⟨a2,c2,rfl,h2⟩;have H2:=Lib.hid h2;clear h2)
   go_roundw
   case rel=>exact⟨k+1,HLT.out,by go_num,_,H2⟩
   case measure=>simp [intOf];have:=HLT.out;omega
  ·obtain rfl:k=e.args.length:=by omega
   have hfin:seqC ((codesF (slK sl) e.args).take e.args.length) l.length=seqC (codesF (slK sl) e.args) l.length:=by rw [List.take_of_length_le (Nat.le_of_eq (codesF_len _ _))]
   rw [hfin]at HST
   have HE:=Lib.hid (HST.out.emit (mopF e.op) 0 (by rw [List.length_append];have:=HL.out;omega))
   rw [List.append_assoc]at HE
   clear hk hlt hfin HST
   go_wp2_with (first
    |(go_at_call 155;refine(operC_any _ HO.out _).mono ?_;rintro e' w' ⟨rfl,rfl⟩)
    |(go_at_call 70;refine HE.out.mono ?_;rintro e' w2 ⟨a2,c2,rfl,h2⟩;have H2:=Lib.hid h2;clear h2))
   go_returns
   exact GSt.done growsR H2.out
theorem gx_cond{S:Nat→Prop}{N base g:Nat}{w:World}{v vs ve:Value}{L:List Ins}{sl:List ByteArray}(e:Ex)(ho:e.op=17∨e.op=18∨e.op=21)(hr:RepE S w e ve)
 (hB:∀W,w.Grows W→Calls Tryz.prog 154 #[.pointer (some ⟨g,0,none⟩),exV e ve] W (GenR (.tuple #[]) S N base g W v vs L sl)) :
 Calls Tryz.prog 107 #[.pointer (some ⟨g,0,none⟩),exV e ve] w (GenR (.tuple #[]) S N base g w v vs L sl):=by
 obtain⟨ea,ec,rfl⟩:=hr.form0
 have HB:=Lib.hid hB
 unfold exV at HB
 clear hB hr
 unfold exV
 rcases ho with ho|ho|ho
 focus
  have q1:(e.op==1)=false:=by rw [ho];rfl
  have q2:(e.op==2)=false:=by rw [ho];rfl
  have q3:(e.op==3)=false:=by rw [ho];rfl
  have q17:(e.op==17)=true:=by rw [ho];rfl
  have q18:(e.op==18)=false:=by rw [ho];rfl
  have q21:(e.op==21)=false:=by rw [ho];rfl
 rotate_left
 focus
  have q1:(e.op==1)=false:=by rw [ho];rfl
  have q2:(e.op==2)=false:=by rw [ho];rfl
  have q3:(e.op==3)=false:=by rw [ho];rfl
  have q17:(e.op==17)=false:=by rw [ho];rfl
  have q18:(e.op==18)=true:=by rw [ho];rfl
  have q21:(e.op==21)=false:=by rw [ho];rfl
 rotate_left
 focus
  have q1:(e.op==1)=false:=by rw [ho];rfl
  have q2:(e.op==2)=false:=by rw [ho];rfl
  have q3:(e.op==3)=false:=by rw [ho];rfl
  have q17:(e.op==17)=false:=by rw [ho];rfl
  have q18:(e.op==18)=false:=by rw [ho];rfl
  have q21:(e.op==21)=true:=by rw [ho];rfl
 rotate_left
 all_goals
  clear ho
  go_enter Tryz.func107,Tryz.ntmps107
  go_wp2_with (go_at_call 154;refine(HB.out _ growsR).mono ?_;rintro e' w1 ⟨a1,c1,rfl,hp,hx⟩;have HP:=Lib.hid hp;have HX:=Lib.hid (GExt.grows (w:=w) growsR hx);clear hp hx)
  go_returns
  exact⟨a1,c1,rfl,HP.out,HX.out⟩
def GenE(sl:List ByteArray)(e:Ex):Prop:=formedB e=true→(∀s,mentB s e=true→inpK s=none→s∈sl)→GenOK sl e
theorem gx_node{sl:List ByteArray}{op nn d mm:Int}{s:ByteArray}{xs:List Ex}(ih:∀a∈xs,GenE sl a):GenE sl (.mk op nn d mm s xs):=by
 intro hf hn S N base g w v vs ve l hp hr hl
 have hnames:∀a∈xs,∀u,mentB u a=true→inpK u=none→u∈sl:=fun a ha u h1 h2=>hn u (by rw [mentB,ments_of ha h1];simp) h2
 rw [formedB,Bool.and_eq_true,decide_eq_true_eq]at hf
 obtain⟨hlen,hf⟩:=hf
 have hl0:l.length≤1000000:=by omega
 rw [codeF]at hl ⊢
 unfold codeNode at hl ⊢
 by_cases h1:op=1
 ·subst h1
  exact gx_lit nn d mm s hp hl0
 by_cases h2:op=2
 ·subst h2
  rw [if_neg (by decide),if_pos rfl]
  unfold nameI
  cases hk:inpK s with
  |some k=>exact gx_inp nn d mm s k hk hp hl0
  |none=>exact gx_name nn d mm s hk (hn s (by rw [mentB];simp) hk) hp hl0
 by_cases h3:op=3
 ·subst h3
  exact gx_best nn d mm s hp hl0
 simp only [if_neg h1,if_neg h2,if_neg h3]at hf hl ⊢
 have hfa:=formeds_all (Bool.and_eq_true_iff.1 hf).1
 have hIH:∀k,k<xs.length→GenOK sl (xs.getD k default):=fun k hk=>by
  have hm:xs.getD k default∈xs:=by rw [List.getD_eq_getElem?_getD,List.getElem?_eq_getElem hk];exact List.getElem_mem hk
  exact ih _ hm (hfa _ hm) (hnames _ hm)
 have hop:=argsN_op hlen
 by_cases h17:op=17
 ·subst h17
  have hx:xs.length=2:=by have:argsN 17=2:=rfl;omega
  simp only [if_pos]at hl ⊢
  rw [getD_code _ _ 0 (by omega),getD_code _ _ 1 (by omega)]at hl ⊢
  obtain⟨e1,e2⟩:=br_total l (codeF (slK sl) (xs.getD 0 default)) (codeF (slK sl) (xs.getD 1 default)) (fun _=>[⟨24,0,0,0⟩]) _ _ _ _ _ _ rfl rfl rfl rfl rfl rfl
  rw [←e1]
  exact gx_cond (.mk 17 nn d mm s xs) (.inl rfl) hr fun W hg=>gx_and (.mk 17 nn d mm s xs) rfl hx hIH (hp.grows hg) (hr.grows hg) _ _ _ _ _ _ rfl rfl rfl rfl rfl rfl (by rw [e2];exact hl)
 by_cases h18:op=18
 ·subst h18
  have hx:xs.length=2:=by have:argsN 18=2:=rfl;omega
  simp only [if_neg h17,if_pos]at hl ⊢
  rw [getD_code _ _ 0 (by omega),getD_code _ _ 1 (by omega)]at hl ⊢
  obtain⟨e1,e2⟩:=br_total l (codeF (slK sl) (xs.getD 0 default)) (fun _=>[⟨23,0,0,0⟩]) (codeF (slK sl) (xs.getD 1 default)) _ _ _ _ _ _ rfl rfl rfl rfl rfl rfl
  rw [←e1]
  exact gx_cond (.mk 18 nn d mm s xs) (.inr (.inl rfl)) hr fun W hg=>gx_or (.mk 18 nn d mm s xs) rfl hx hIH (hp.grows hg) (hr.grows hg) _ _ _ _ _ _ rfl rfl rfl rfl rfl rfl (by rw [e2];exact hl)
 by_cases h21:op=21
 ·subst h21
  have hx:xs.length=3:=by have:argsN 21=3:=rfl;omega
  simp only [if_neg h17,if_neg h18,if_pos]at hl ⊢
  rw [getD_code _ _ 0 (by omega),getD_code _ _ 1 (by omega),getD_code _ _ 2 (by omega)]at hl ⊢
  obtain⟨e1,e2⟩:=br_total l (codeF (slK sl) (xs.getD 0 default)) (codeF (slK sl) (xs.getD 1 default)) (codeF (slK sl) (xs.getD 2 default)) _ _ _ _ _ _ rfl rfl rfl rfl rfl rfl
  rw [←e1]
  exact gx_cond (.mk 21 nn d mm s xs) (.inr (.inr rfl)) hr fun W hg=>gx_if (.mk 21 nn d mm s xs) rfl hx hIH (hp.grows hg) (hr.grows hg) _ _ _ _ _ _ rfl rfl rfl rfl rfl rfl (by rw [e2];exact hl)
 simp only [if_neg h17,if_neg h18,if_neg h21]at hl ⊢
 exact gx_seq (.mk op nn d mm s xs) (by show 0≤op∧op≤100;omega) h1 h2 h3 h17 h18 h21 hIH hp hr (by rw [List.length_append]at hl;exact hl) (by show xs.length≤1000;omega)
mutual
theorem gen_code{sl:List ByteArray}:∀e:Ex,GenE sl e
 | .mk _ _ _ _ _ xs=>gx_node (gen_codes xs)
theorem gen_codes{sl:List ByteArray}:∀xs:List Ex,∀a∈xs,GenE sl a
 | [],_,ha=>by cases ha
 |e::r,a,ha=>by
  rcases List.mem_cons.1 ha with h|ha
  ·rw [h];exact gen_code e
  ·exact gen_codes r a ha
end
end Go.Proofs.YtfoefpoaomepbaaGreatDoor
