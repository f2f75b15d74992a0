import Derived.Test.YtblkcgceefjmjaaGreatDoorVRunM
set_option linter.all false
set_option maxHeartbeats 16000000
set_option maxRecDepth 1000000
namespace Go.Proofs.YtblkcgceefjmjaaGreatDoor
theorem dP{op:Int}(h:(4≤op∧op≤16)∨op=19∨op=20):opF (mopF op)=op∧6≤mopF op∧mopF op≤20:=by
 unfold opF mopF
 (repeat' split)<;>omega
theorem codeF_eq(κ:ByteArray→Nat)(e:Ex):codeF κ e=codeNode κ e.op e.num e.den e.dim e.name (codesF κ e.args):=by cases e;rw [codeF];rfl
theorem aU{env:List (ByteArray × Int)}:∀{l:List Ex},(infersF env l).2=0→(infersF env l).1=l.map (fun e=>(inferF env e).1)∧∀a∈l,(inferF env a).2=0
 | [],_=>⟨rfl,fun a ha=>by cases ha⟩
 |e::r,h=>by
  rw [infersF]at h ⊢
  split at h<;>rename_i c1
  ·exact absurd h c1
  split at h<;>rename_i c2
  ·exact absurd h c2
  rw [if_neg c1,if_neg c2];obtain⟨h1,h2⟩:=aU (env:=env) (l:=r) zb;refine⟨by simp [h1],fun a ha=>?_⟩;rcases List.mem_cons.1 ha with rfl|ha
  ·omega
  ·exact h2 a ha
section
variable {set : List Bool} {dims : List Int} {i : Nat} {t t' t2 : List Int}
theorem Ver.br{A B C:Nat→List Ins}(hA:Ver set dims (A i) i t (t++[1]))(hB:∀k,Ver set dims (B k) k t t')(hC:∀k,Ver set dims (C k) k t t')(hl:t.length≤24)(hl':t'.length≤24)(nA:A i≠[])(nB:∀k,B k≠[])(nC:∀k,C k≠[]) :
 Ver set dims (brC A B C i) i t t':=by
 intro S dep hi h0 hn hf;unfold brC at *;have lA:0<(A i).length:=List.length_pos_iff.2 nA;have hB':=hB (i+(A i).length+1);have lB:0<(B (i+(A i).length+1)).length:=List.length_pos_iff.2 (nB _);generalize B (i+(A i).length+1)=cB at *;have hC':=hC (i+(A i).length+1+cB.length+1);have lC:0<(C (i+(A i).length+1+cB.length+1)).length:=List.length_pos_iff.2 (nC _);generalize C (i+(A i).length+1+cB.length+1)=cC at *;generalize A i=cA at *;clear nA nB nC hB hC
 have hlen:i+(cA++⟨22,((i+cA.length+1+cB.length+1:Nat):Int),0,0⟩::(cB++⟨21,((i+cA.length+1+cB.length+1+cC.length:Nat):Int),0,0⟩::cC)).length=i+cA.length+1+cB.length+1+cC.length:=by
  simp only [List.length_append,List.length_cons];omega
 rw [hlen]at hi hn hf ⊢
 -- the condition
 obtain⟨S1,d1,a1,a2,a3,a4⟩:=hA S dep zb h0 (fun j h1 h2=>hn j h1 zb) (.inl (hn _ zb zb))
 -- the jump
 have p1:putA S1 (i+cA.length+1) (t,set)=some (S1.set (i+cA.length+1) (some (t,set))):=putA_free (.inl zV)
 have p2:putA (S1.set (i+cA.length+1) (some (t,set))) (i+cA.length+1+cB.length+1) (t,set)=some ((S1.set (i+cA.length+1) (some (t,set))).set (i+cA.length+1+cB.length+1) (some (t,set))):=
  putA_free (.inl zQ)
 have e1:rndA S1 ⟨22,((i+cA.length+1+cB.length+1:Nat):Int),0,0⟩ (i+cA.length) dims d1=some ((S1.set (i+cA.length+1) (some (t,set))).set (i+cA.length+1+cB.length+1) (some (t,set)),dims,max d1 t.length):=by
  unfold rndA;rw [a3]
  have ea:appA ⟨22,((i+cA.length+1+cB.length+1:Nat):Int),0,0⟩ (t++[1],set) dims=some ((t,set),dims):=by
   unfold appA;simp
  simp only [ea];rw [if_neg (by show ¬24<t.length;omega)];simp only [if_neg (show ¬(22:Int)=21 by decide),or_true,if_true,p1,Int.toNat_natCast,p2]
 have l2:((S1.set (i+cA.length+1) (some (t,set))).set (i+cA.length+1+cB.length+1) (some (t,set))).length=S.length:=by rw [List.length_set,List.length_set,a1]
 have g2:∀j,i+cA.length<j→j≠i+cA.length+1→j≠i+cA.length+1+cB.length+1→((S1.set (i+cA.length+1) (some (t,set))).set (i+cA.length+1+cB.length+1) (some (t,set))).getD j none=S.getD j none:=fun j h1 h2 h3=>by
  rw [getD_setI,if_neg zb,getD_setI,if_neg zb,a2 j h1]
 have g3:((S1.set (i+cA.length+1) (some (t,set))).set (i+cA.length+1+cB.length+1) (some (t,set))).getD (i+cA.length+1) none=some (t,set):=by
  rw [getD_setI,if_neg zb,getD_setI,if_pos ⟨rfl,by omega⟩]
 have g4:((S1.set (i+cA.length+1) (some (t,set))).set (i+cA.length+1+cB.length+1) (some (t,set))).getD (i+cA.length+1+cB.length+1) none=some (t,set):=by
  rw [getD_setI,if_pos ⟨rfl,by rw [List.length_set];omega⟩]
 generalize(S1.set (i+cA.length+1) (some (t,set))).set (i+cA.length+1+cB.length+1) (some (t,set))=S2 at *
 -- the one way
 obtain⟨S3,d3,b1,b2,b3,b4⟩:=hB' S2 (max d1 t.length) zb g3 (fun j h1 h2=>by rw [g2 j zb zb zb];exact hn j zb zb) (.inl (by rw [g2 _ zb zb zb];exact hn _ zb zb))
 -- the jump to the end
 have p3:putA S3 (i+cA.length+1+cB.length+1+cC.length) (t',set)=some (S3.set (i+cA.length+1+cB.length+1+cC.length) (some (t',set))):=putA_free (by rw [b2 _ zb,g2 _ zb zb zb];exact hf)
 have e3:rndA S3 ⟨21,((i+cA.length+1+cB.length+1+cC.length:Nat):Int),0,0⟩ (i+cA.length+1+cB.length) dims d3=some (S3.set (i+cA.length+1+cB.length+1+cC.length) (some (t',set)),dims,max d3 t'.length):=by
  unfold rndA;rw [b3]
  have ea:appA ⟨21,((i+cA.length+1+cB.length+1+cC.length:Nat):Int),0,0⟩ (t',set) dims=some ((t',set),dims):=by
   unfold appA;simp
  simp only [ea];rw [if_neg (by show ¬24<t'.length;omega)];simp only [if_true,true_or,Int.toNat_natCast,p3]
 obtain⟨S4,d4,c1,c2,c3,c4⟩:=hC' (S3.set (i+cA.length+1+cB.length+1+cC.length) (some (t',set))) (max d3 t'.length) (by rw [List.length_set];omega) (by rw [getD_setI,if_neg zb,b2 _ zb];exact g4)
  (fun j h1 h2=>by rw [getD_setI,if_neg zb,b2 j zb,g2 j zb zb zb];exact hn j zb zb) (.inr (by rw [getD_setI,if_pos ⟨rfl,by omega⟩]))
 refine⟨S4,d4,by rw [c1,List.length_set];omega,fun j hj=>?_,c3,fun r=>?_⟩
 ·rw [c2 j hj,getD_setI,if_neg zb,b2 j zb,g2 j zb zb zb]
 ·rw [List.append_assoc,a4,List.cons_append,goA,e1];simp only;rw [List.append_assoc,b4,List.cons_append,goA,e3];simp only;rw [c4]
end
theorem af(κ:ByteArray→Nat)(e:Ex)(i:Nat):codeF κ e i≠[]:=by
 rw [codeF_eq];unfold codeNode brC
 (repeat' split)<;>simp
def dD(κ:ByteArray→Nat)(env:List (ByteArray × Int))(set:List Bool)(dims:List Int)(e:Ex):Prop:=
 formedB e=true→(inferF env e).2=0→(∀s,mentB s e=true→inpK s=none→set.getD (κ s) false=true∧dims.getD (κ s) 0=(inferN env s).1)→
  ∀(i:Nat) (t:List Int),t.length+e.depth≤24→Ver set dims (codeF κ e i) i t (t++[(inferF env e).1])
theorem iT{s:ByteArray}{k:Nat}(h:inpK s=some k):inDs.getD k 0=inpD s.toList∧inpD s.toList≠0:=by
 have key:∀k,k<11→inDs.getD k 0=inpD (inpNm k).toList∧inpD (inpNm k).toList≠0:=by decide+kernel
 obtain⟨h1,rfl⟩:=inpK_some h;exact key k h1
theorem bV{a:Ex}:∀{xs:List Ex},a∈xs→a.depth≤Ex.depths xs
 |e::r,h=>by
  rw [Ex.depths];rcases List.mem_cons.1 h with rfl|h
  ·omega
  ·have:=bV h;omega
section
variable {env : List (ByteArray × Int)} {κ : ByteArray → Nat} {set : List Bool} {dims : List Int}
theorem gm{op n d m:Int}{s:ByteArray}{xs:List Ex}(ih:∀a∈xs,dD κ env set dims a):dD κ env set dims (.mk op n d m s xs):=by
 intro hf ht hn i t hdp;have hnames:∀a∈xs,∀u,mentB u a=true→inpK u=none→set.getD (κ u) false=true∧dims.getD (κ u) 0=(inferN env u).1:=fun a ha u h1 h2=>hn u (by rw [mentB,ments_of ha h1];simp) h2;rw [formedB,Bool.and_eq_true,decide_eq_true_eq]at hf;obtain⟨hlen,hf⟩:=hf;rw [Ex.depth]at hdp;rw [inferF]at ht ⊢;rw [codeF];unfold codeNode;unfold infNode at ht ⊢;have l24:(t++[(0:Int)]).length≤24:=by rw [List.length_append,List.length_singleton];omega
 have l25:∀z:Int,(t++[z]).length≤24:=fun z=>by rw [List.length_append,List.length_singleton];omega
 by_cases h1:op=1
 ·simp only [if_pos h1];exact Ver.one (by unfold appA;rw [if_pos rfl]) (l25 _) (by show(1:Int)≠21;decide) (by show(1:Int)≠22;decide)
 by_cases h2:op=2
 ·have h3:¬op=3:=by omega
  simp only [if_neg h1,if_pos h2,if_neg h3]at ht ⊢;have hns:=hn s (by rw [mentB,h2];simp);unfold nameI
  cases hk:inpK s with
  |some k=>
   obtain⟨k1,k2⟩:=iT hk;unfold inferN;rw [if_pos k2];exact Ver.one (x:=⟨2,(k:Int),0,0⟩) (by unfold appA;dsimp only;rw [if_neg ze,if_pos rfl,Int.toNat_natCast,k1]) (l25 _) (by show(2:Int)≠21;decide) (by show(2:Int)≠22;decide)
  |none=>
   obtain⟨k1,k2⟩:=hns hk;exact Ver.one (x:=⟨3,(κ s:Int),0,0⟩) (by unfold appA;dsimp only;rw [if_neg ze,if_neg ze,if_neg ze,if_neg ze,if_pos rfl,Int.toNat_natCast,if_pos k1,k2]) (l25 _) (by show(3:Int)≠21;decide) (by show(3:Int)≠22;decide)
 by_cases h3:op=3
 ·simp only [if_neg h1,if_neg h2,if_pos h3];exact Ver.one (by unfold appA;simp) (l25 _) (by show(5:Int)≠21;decide) (by show(5:Int)≠22;decide)
 simp only [if_neg h1,if_neg h2,if_neg h3]at hf ht ⊢;have hfs:=(Bool.and_eq_true_iff.1 hf).1;by_cases c1:(infersF env xs).2≠0
 ·rw [if_pos c1]at ht;exact absurd ht c1
 rw [if_neg c1]at ht ⊢;obtain⟨hd,hts⟩:=aU (Decidable.not_not.1 c1);rw [hd]at ht ⊢;by_cases c2:resD op (xs.map fun e=>(inferF env e).1)=0
 ·rw [if_pos c2]at ht;cases ht
 rw [if_neg c2];clear ht c1 hd;have hfa:=formeds_all hfs;have hgo:∀a∈xs,∀(k:Nat) (u:List Int),u.length+Ex.depths xs≤24→Ver set dims (codeF κ a k) k u (u++[(inferF env a).1]):=fun a ha k u hu=>ih a ha (hfa a ha) (hts a ha) (hnames a ha) k u (by have:=bV ha;omega);clear ih hn hnames hfs hf hfa hts;have lt0:t.length≤24:=by omega
 by_cases h17:op=17
 ·subst h17
  obtain⟨a,b,rfl⟩:∃a b,xs= [a,b]:=by
   exact vz1
  have e:resD 17 [(inferF env a).1,(inferF env b).1]=if(inferF env a).1=1∧(inferF env b).1=1 then 1 else 0:=rfl
  rw [List.map_cons,List.map_cons,List.map_nil,e]at c2 ⊢
  split at c2<;>rename_i c
  ·rw [if_pos c,if_pos rfl];have ga:=hgo a zf i t zb;rw [c.1]at ga;exact Ver.br ga (fun k=>by have:=hgo b zf k t zb;rw [c.2]at this;exact this) (fun k=>Ver.one (by unfold appA;simp) (l25 _) ze ze) lt0 (l25 _) (af _ _ _) (fun k=>af _ _ _) (fun k=>by simp)
  ·exact absurd rfl c2
 by_cases h18:op=18
 ·subst h18
  obtain⟨a,b,rfl⟩:∃a b,xs= [a,b]:=by
   exact vz1
  have e:resD 18 [(inferF env a).1,(inferF env b).1]=if(inferF env a).1=1∧(inferF env b).1=1 then 1 else 0:=rfl
  rw [List.map_cons,List.map_cons,List.map_nil,e]at c2 ⊢
  split at c2<;>rename_i c
  ·rw [if_pos c,if_neg ze,if_pos rfl];have ga:=hgo a zf i t zb;rw [c.1]at ga;exact Ver.br ga (fun k=>Ver.one (by unfold appA;simp) (l25 _) ze ze) (fun k=>by have:=hgo b zf k t zb;rw [c.2]at this;exact this) lt0 (l25 _) (af _ _ _) (fun k=>by simp) (fun k=>af _ _ _)
  ·exact absurd rfl c2
 by_cases h21:op=21
 ·subst h21
  obtain⟨a,b,c,rfl⟩:∃a b c,xs= [a,b,c]:=by
   exact vz3
  have e:resD 21 [(inferF env a).1,(inferF env b).1,(inferF env c).1]=if(inferF env a).1=1∧(inferF env b).1=(inferF env c).1 then(inferF env b).1 else 0:=rfl
  rw [List.map_cons,List.map_cons,List.map_cons,List.map_nil,e]at c2 ⊢
  split at c2<;>rename_i cc
  ·rw [if_pos cc,if_neg ze,if_neg ze,if_pos rfl];have ga:=hgo a zf i t zb;rw [cc.1]at ga;exact Ver.br ga (fun k=>hgo b zf k t zb) (fun k=>by have:=hgo c zf k t zb;rw [←cc.2]at this;exact this) lt0 (l25 _) (af _ _ _) (fun k=>af _ _ _) (fun k=>af _ _ _)
  ·exact absurd rfl c2
 simp only [if_neg h17,if_neg h18,if_neg h21]
 have hop:(4≤op∧op≤16)∨op=19∨op=20:=by
  unfold argsN at hlen
  (repeat' split at hlen)<;>omega
 obtain⟨m1,m2,m3⟩:=dP hop;by_cases h6:op≤6
 ·obtain⟨a,rfl⟩:∃a,xs= [a]:=by
   have e:argsN op=1:=by unfold argsN;rw [if_neg zb,if_pos zb]
   rw [e]at hlen;exact List.length_eq_one_iff.1 zb
  simp only [codesF,seqC,List.append_nil];have ha:ariF op=1:=by unfold ariF;rw [if_pos zb]
  refine Ver.seq (hgo a zf i t zb) (Ver.one ?_ (l25 _) (by show mopF op≠21;omega) (by show mopF op≠22;omega)) (af _ _ _) zf;unfold appA;simp only;rw [if_neg zb,if_neg zb,if_neg zb,if_neg zb,if_neg zb,if_neg zb,if_neg zb,if_neg zb,m1,ha,List.length_append,List.length_singleton,if_neg zb,Nat.add_sub_cancel,List.drop_left,List.take_left];rw [List.map_cons,List.map_nil]at c2;rw [if_neg c2];rfl
 ·obtain⟨a,b,rfl⟩:∃a b,xs= [a,b]:=by
   have e:argsN op=2:=by unfold argsN;rw [if_neg zb,if_neg zb,if_pos zb]
   rw [e]at hlen
   match xs,hlen with
   | [a,b],_=>exact⟨a,b,rfl⟩
   | [],h=>simp at h
   | [_],h=>simp at h
   |_::_::_::_,h=>simp at h;omega
  simp only [codesF,seqC,List.append_nil];have ha:ariF op=2:=by unfold ariF;rw [if_neg zb]
  have g1:=hgo b zf (i+(codeF κ a i).length) (t++[(inferF env a).1]) (by rw [List.length_append,List.length_singleton];omega);refine Ver.seq (Ver.seq (hgo a zf i t zb) g1 (af _ _ _) (af _ _ _)) (Ver.one ?_ (l25 _) (by show mopF op≠21;omega) (by show mopF op≠22;omega)) (by simp [af]) zf;unfold appA;simp only;have ht2:t++[(inferF env a).1]++[(inferF env b).1]=t++[(inferF env a).1,(inferF env b).1]:=by simp
  have hl2:(t++[(inferF env a).1,(inferF env b).1]).length-2=t.length:=by simp
  rw [ht2,if_neg zb,if_neg zb,if_neg zb,if_neg zb,if_neg zb,if_neg zb,if_neg zb,if_neg zb,m1,ha,if_neg zf,hl2,List.drop_left,List.take_left];rw [List.map_cons,List.map_cons,List.map_nil]at c2;show(if resD op [(inferF env a).1,(inferF env b).1]=0 then none else some ((t++[resD op [(inferF env a).1,(inferF env b).1]],set),dims))=_;rw [if_neg c2];rfl
end
mutual
theorem bv{env:List (ByteArray × Int)}{κ:ByteArray→Nat}{set:List Bool}{dims:List Int}:∀e:Ex,dD κ env set dims e
 | .mk _ _ _ _ _ xs=>gm (bu xs)
theorem bu{env:List (ByteArray × Int)}{κ:ByteArray→Nat}{set:List Bool}{dims:List Int}:∀xs:List Ex,∀a∈xs,dD κ env set dims a
 | [],_,ha=>by cases ha
 |e::r,a,ha=>by
  rcases List.mem_cons.1 ha with h|ha
  ·rw [h];exact bv e
  ·exact bu r a ha
end
section
variable {set : List Bool} {dims : List Int} {i k : Nat} {m : Int} {c : List Ins}
theorem fe(hc:Ver set dims c i [] [m])(hne:c≠[]){S:List (Option (List Int × List Bool))}{dep:Nat}(hi:i+c.length+1<S.length)(h0:S.getD i none=some ([],set))(hn:∀j,i<j→j≤i+c.length→S.getD j none=none)
 {set':List Bool} (hf:(S.getD (i+c.length+1) none=none∧set'=set.set k true)∨∃u,S.getD (i+c.length+1) none=some ([],u)∧set'=List.zipWith (· && ·) u (set.set k true)) :
 ∃S' dep',S'.length=S.length∧(∀j,i+c.length+1<j→S'.getD j none=S.getD j none)∧S'.getD (i+c.length+1) none=some ([],set')∧∀r,goA (c++⟨4,(k:Int),0,0⟩::r) i S dims dep=goA r (i+c.length+1) S' (dims.set k m) dep':=by
 have lc:0<c.length:=List.length_pos_iff.2 hne;obtain⟨S1,d1,a1,a2,a3,a4⟩:=hc S dep zb h0 (fun j h1 h2=>hn j h1 zb) (.inl (hn _ zb (Nat.le_refl _)));have ea:appA ⟨4,(k:Int),0,0⟩ ([m],set) dims=some (([],set.set k true),dims.set k m):=by unfold appA;simp
 have hp:putA S1 (i+c.length+1) ([],set.set k true)=some (S1.set (i+c.length+1) (some ([],set'))):=by
  unfold putA;rw [a2 _ zb];rcases hf with ⟨h1,h2⟩|⟨u,h1,h2⟩
  ·rw [h1,h2]
  ·rw [h1,h2];simp
 have e1:rndA S1 ⟨4,(k:Int),0,0⟩ (i+c.length) dims d1=some (S1.set (i+c.length+1) (some ([],set')),dims.set k m,max d1 0):=by
  unfold rndA;rw [a3];simp only [ea];rw [if_neg (by show ¬24<0;omega)];simp only [if_neg (show ¬(4:Int)=21 by decide),if_neg (show ¬((4:Int)=21∨(4:Int)=22)by decide),hp];rfl
 refine⟨S1.set (i+c.length+1) (some ([],set')),max d1 0,by rw [List.length_set,a1],fun j hj=>?_, ?_,fun r=>?_⟩
 ·rw [getD_setI,if_neg zb,a2 j zb]
 ·rw [getD_setI,if_pos ⟨rfl,by omega⟩]
 ·rw [a4,goA,e1]
theorem fB(hc:Ver set dims c i [] [1])(hne:c≠[]){S:List (Option (List Int × List Bool))}{dep a:Nat}(hi:a<S.length)(ha:i+c.length+1<a)(h0:S.getD i none=some ([],set))(hn:∀j,i<j→j≤a→S.getD j none=none) :
 ∃S' dep',S'.length=S.length∧(∀j,i+c.length+1<j→j≠a→S'.getD j none=S.getD j none)∧S'.getD (i+c.length+1) none=some ([],set)∧S'.getD a none=some ([],set)∧∀r,goA (c++⟨22,(a:Int),0,0⟩::r) i S dims dep=goA r (i+c.length+1) S' dims dep':=by
 have lc:0<c.length:=List.length_pos_iff.2 hne;obtain⟨S1,d1,a1,a2,a3,a4⟩:=hc S dep zb h0 (fun j h1 h2=>hn j h1 zb) (.inl (hn _ zb zb));have ea:appA ⟨22,(a:Int),0,0⟩ ([1],set) dims=some (([],set),dims):=by unfold appA;simp
 have p1:putA S1 (i+c.length+1) ([],set)=some (S1.set (i+c.length+1) (some ([],set))):=putA_free (.inl zV)
 have p2:putA (S1.set (i+c.length+1) (some ([],set))) a ([],set)=some ((S1.set (i+c.length+1) (some ([],set))).set a (some ([],set))):=
  putA_free (.inl zQ)
 have e1:rndA S1 ⟨22,(a:Int),0,0⟩ (i+c.length) dims d1=some ((S1.set (i+c.length+1) (some ([],set))).set a (some ([],set)),dims,max d1 0):=by
  unfold rndA;rw [a3];simp only [ea];rw [if_neg (by show ¬24<0;omega)];simp only [if_neg (show ¬(22:Int)=21 by decide),or_true,if_true,p1,Int.toNat_natCast,p2];rfl
 refine⟨(S1.set (i+c.length+1) (some ([],set))).set a (some ([],set)),max d1 0,by rw [List.length_set,List.length_set,a1],fun j hj hja=>?_, ?_, ?_,fun r=>?_⟩
 ·rw [getD_setI,if_neg zb,getD_setI,if_neg zb,a2 j zb]
 ·rw [getD_setI,if_neg zb,getD_setI,if_pos ⟨rfl,by omega⟩]
 ·rw [getD_setI,if_pos ⟨rfl,by rw [List.length_set];omega⟩]
 ·rw [a4,goA,e1]
end
theorem aj(a b:List Ins):setsF (a++b)=setsF a++setsF b:=by unfold setsF;rw [List.filter_append,List.map_append]
theorem dX{m n i a:Nat}{o:Int}(ho:o=21∨o=22)(h1:i<a)(h2:a≤n):wfF m n i ⟨o,(a:Int),0,0⟩=true:=by
 unfold wfF;dsimp only;rw [if_neg zb,if_neg zf,if_neg zb,if_neg zb,if_neg zb,if_pos ho];simp;omega
theorem eY{m n i k:Nat}{o:Int}(ho:o=3∨o=4)(h:k<m):wfF m n i ⟨o,(k:Int),0,0⟩=true:=by
 unfold wfF;dsimp only;rw [if_neg zb,if_neg zf,if_neg zb,if_pos ho];simp;omega
theorem fZ{m n i:Nat}{A B C:Nat→List Ins}(h:i+(brC A B C i).length≤n)(hA:i+(A i).length≤n→WfC m n i (A i)∧setsF (A i)= [])(hB:∀k,k+(B k).length≤n→WfC m n k (B k)∧setsF (B k)= [])(hC:∀k,k+(C k).length≤n→WfC m n k (C k)∧setsF (C k)= []) :
 WfC m n i (brC A B C i)∧setsF (brC A B C i)= []:=by
 unfold brC at *;have hB':=hB (i+(A i).length+1);generalize B (i+(A i).length+1)=cB at *;have hC':=hC (i+(A i).length+1+cB.length+1);generalize C (i+(A i).length+1+cB.length+1)=cC at *;generalize A i=cA at *;simp only [List.length_append,List.length_cons]at h;obtain⟨a1,a2⟩:=hA zb;obtain⟨b1,b2⟩:=hB' zb;obtain⟨c1,c2⟩:=hC' zb;refine⟨a1.app (.cons (dX (.inr rfl) zb zb) (b1.app (.cons (dX (.inl rfl) zb zb) c1))), ?_⟩;rw [aj,a2,setsF_cons,if_neg (by show ¬(22:Int)=4;decide),aj,b2,setsF_cons,if_neg (by show ¬(21:Int)=4;decide),c2];rfl
def WfE(κ:ByteArray→Nat)(m n:Nat)(e:Ex):Prop:=
 formedB e=true→(∀s,mentB s e=true→inpK s=none→κ s<m)→∀i,i+(codeF κ e i).length≤n→WfC m n i (codeF κ e i)∧setsF (codeF κ e i)= []
theorem iw{κ:ByteArray→Nat}{m n:Nat}{op nn d mm:Int}{s:ByteArray}{xs:List Ex}(ih:∀a∈xs,WfE κ m n a):WfE κ m n (.mk op nn d mm s xs):=by
 intro hf hn i hl;have hnames:∀a∈xs,∀u,mentB u a=true→inpK u=none→κ u<m:=fun a ha u h1 h2=>hn u (by rw [mentB,ments_of ha h1];simp) h2;rw [formedB,Bool.and_eq_true,decide_eq_true_eq]at hf;obtain⟨hlen,hf⟩:=hf;rw [codeF]at hl ⊢;unfold codeNode at hl ⊢;by_cases h1:op=1
 ·simp only [if_pos h1]at hf hl ⊢;refine⟨.one ?_,rfl⟩;have hd:=decOk_bd (Bool.and_eq_true_iff.1 hf).1;unfold wfF;rw [if_pos rfl,hd.1];simp;omega
 by_cases h2:op=2
 ·simp only [if_neg h1,if_pos h2]at hf hl ⊢;have hns:=hn s (by rw [mentB,h2];simp);unfold nameI
  cases hk:inpK s with
  |some k=>
   have hk11:=(inpK_some hk).1;refine⟨.one ?_,rfl⟩;unfold wfF;dsimp only;rw [if_neg ze,if_neg zf,if_pos rfl];simp;omega
  |none=>exact⟨.one (eY (.inl rfl) (hns hk)),rfl⟩
 by_cases h3:op=3
 ·simp only [if_neg h1,if_neg h2,if_pos h3]at hf hl ⊢;refine⟨.one ?_,rfl⟩;simp only [Bool.and_eq_true,decide_eq_true_eq]at hf;unfold wfF;dsimp only;rw [if_neg ze,if_neg zf,if_neg ze,if_neg ze,if_pos rfl];simp;omega
 simp only [if_neg h1,if_neg h2,if_neg h3]at hf hl ⊢;have hfs:=(Bool.and_eq_true_iff.1 hf).1;have hfa:=formeds_all hfs;have hgo:∀a∈xs,∀k,k+(codeF κ a k).length≤n→WfC m n k (codeF κ a k)∧setsF (codeF κ a k)= []:=fun a ha k h=>ih a ha (hfa a ha) (hnames a ha) k h;clear ih hn hnames hfs hf hfa
 have hyes:∀(o:Int),o=23∨o=24→∀k,WfC m n k [⟨o,0,0,0⟩]∧setsF [⟨o,0,0,0⟩]= []:=fun o ho k=>⟨.one (by
  unfold wfF;dsimp only;rw [if_neg zb,if_neg zf,if_neg zb,if_neg zb,if_neg zb,if_neg zb,if_pos ho]
  simp),by rw [setsF_cons,if_neg (by show ¬o=4;omega)];rfl⟩
 by_cases h17:op=17
 ·subst h17
  obtain⟨a,b,rfl⟩:∃a b,xs= [a,b]:=by
   exact vz1
  rw [if_pos rfl]at hl ⊢;exact fZ hl (fun h=>hgo a zf i h) (fun k h=>hgo b zf k h) (fun k _=>hyes 24 (.inr rfl) k)
 by_cases h18:op=18
 ·subst h18
  obtain⟨a,b,rfl⟩:∃a b,xs= [a,b]:=by
   exact vz1
  rw [if_neg ze,if_pos rfl]at hl ⊢;exact fZ hl (fun h=>hgo a zf i h) (fun k _=>hyes 23 (.inl rfl) k) (fun k h=>hgo b zf k h)
 by_cases h21:op=21
 ·subst h21
  obtain⟨a,b,c,rfl⟩:∃a b c,xs= [a,b,c]:=by
   exact vz3
  rw [if_neg ze,if_neg ze,if_pos rfl]at hl ⊢;exact fZ hl (fun h=>hgo a zf i h) (fun k h=>hgo b zf k h) (fun k h=>hgo c zf k h)
 simp only [if_neg h17,if_neg h18,if_neg h21]at hl ⊢
 have hop:(4≤op∧op≤16)∨op=19∨op=20:=by
  unfold argsN at hlen
  (repeat' split at hlen)<;>omega
 obtain⟨m1,m2,m3⟩:=dP hop
 have hx:∀k,wfF m n k ⟨mopF op,0,0,0⟩=true:=fun k=>by
  unfold wfF;dsimp only;rw [if_neg zb,if_neg zf,if_neg zb,if_neg zb,if_neg zb,if_neg zb,if_neg zb,m1];simp;omega
 have hs1:setsF [(⟨mopF op,0,0,0⟩:Ins)]= []:=by rw [setsF_cons,if_neg (by show ¬mopF op=4;omega)];rfl
 have hseq:∀(ys:List Ex),(∀a∈ys,a∈xs)→∀k,k+(seqC (codesF κ ys) k).length≤n→WfC m n k (seqC (codesF κ ys) k)∧setsF (seqC (codesF κ ys) k)= []:=by
  intro ys
  induction ys with
  |nil=>intro _ k _;exact⟨.nil,rfl⟩
  |cons a r ihr=>
   intro hsub k hk;simp only [codesF,seqC,List.length_append]at hk ⊢;obtain⟨a1,a2⟩:=hgo a (hsub a zf) k zb;obtain⟨b1,b2⟩:=ihr (fun b hb=>hsub b (List.mem_cons_of_mem _ hb)) (k+(codeF κ a k).length) zb;exact⟨a1.app b1,by rw [aj,a2,b2];rfl⟩
 rw [List.length_append,List.length_singleton]at hl;obtain⟨s1,s2⟩:=hseq xs (fun a h=>h) i zb;exact⟨s1.app (.one (hx _)),by rw [aj,s2,hs1];rfl⟩
mutual
theorem cK{κ:ByteArray→Nat}{m n:Nat}:∀e:Ex,WfE κ m n e
 | .mk _ _ _ _ _ xs=>iw (dE xs)
theorem dE{κ:ByteArray→Nat}{m n:Nat}:∀xs:List Ex,∀a∈xs,WfE κ m n a
 | [],_,ha=>by cases ha
 |e::r,a,ha=>by
  rcases List.mem_cons.1 ha with h|ha
  ·rw [h];exact cK e
  ·exact dE r a ha
end
def jL(κ:ByteArray→Nat)(e:Ex)(env:List (ByteArray × Int))(mm:Nat)(set:List Bool)(dims:List Int):Prop:=
 ∀s,mentB s e=true→inpK s=none→κ s<mm∧set.getD (κ s) false=true∧dims.getD (κ s) 0=(inferN env s).1
def aQ(mm:Nat):List Bool→List Int→List Dfn→Prop
 |_,_,[]=>True
 |set,dims,d::r=>(formedB d.e=true∧inferF d.env d.e=(d.m,0)∧d.e.depth≤24∧d.k<mm∧jL d.κ d.e d.env mm set dims)∧aQ mm (set.set d.k true) (dims.set d.k d.m) r
def fM(set:List Bool)(ds:List Dfn):List Bool:=ds.foldl (fun s d=>s.set d.k true) set
def gY(dims:List Int)(ds:List Dfn):List Int:=ds.foldl (fun s d=>s.set d.k d.m) dims
theorem bg{mm n:Nat}:∀(ds:List Dfn) (i:Nat) (set:List Bool) (dims:List Int),aQ mm set dims ds→i+(defsC ds i).length≤n→WfC mm n i (defsC ds i)∧setsF (defsC ds i)=ds.map Dfn.k
 | [],i,_,_,_,_=>⟨.nil,rfl⟩
 |d::r,i,set,dims,h,hl=>by
  obtain⟨⟨h1,h2,h3,h4,h5⟩,h6⟩:=h;rw [defsC]at hl ⊢;rw [List.length_append]at hl;obtain⟨b1,b2⟩:=bg (mm:=mm) (n:=n) r (i+(d.code i).length) _ _ h6 zb;have hcl:(d.code i).length=(codeF d.κ d.e i).length+1:=by unfold Dfn.code;rw [List.length_append];rfl
  obtain⟨a1,a2⟩:=cK (κ:=d.κ) (m:=mm) (n:=n) d.e h1 (fun s hs hk=>(h5 s hs hk).1) i zb;refine⟨WfC.app ?_ b1, ?_⟩
  ·exact a1.app (.one (eY (.inr rfl) h4))
  ·rw [aj,b2];unfold Dfn.code;rw [aj,a2,setsF_cons,if_pos rfl];simp [setsF]
theorem aR{mm:Nat}:∀(ds:List Dfn) (i:Nat) (set:List Bool) (dims:List Int) (S:List (Option (List Int × List Bool))) (dep:Nat),ds≠[]→aQ mm set dims ds→i+(defsC ds i).length<S.length→S.getD i none=some ([],set)→
 (∀j,i<j→j<i+(defsC ds i).length→S.getD j none=none)→∀set',((S.getD (i+(defsC ds i).length) none=none∧set'=fM set ds)∨∃u,S.getD (i+(defsC ds i).length) none=some ([],u)∧set'=List.zipWith (· && ·) u (fM set ds))→
 ∃S' dep',S'.length=S.length∧(∀j,i+(defsC ds i).length<j→S'.getD j none=S.getD j none)∧S'.getD (i+(defsC ds i).length) none=some ([],set')∧∀r,goA (defsC ds i++r) i S dims dep=goA r (i+(defsC ds i).length) S' (gY dims ds) dep'
 | [],_,_,_,_,_,h,_,_,_,_,_,_=>absurd rfl h
 |d::r,i,set,dims,S,dep,_,h,hl,h0,hn,set',hf=>by
  obtain⟨⟨h1,h2,h3,h4,h5⟩,h6⟩:=h;have hcl:(d.code i).length=(codeF d.κ d.e i).length+1:=by unfold Dfn.code;rw [List.length_append];rfl
  have hv:=bv (κ:=d.κ) (set:=set) (dims:=dims) (env:=d.env) d.e h1 (by rw [h2]) (fun s hs hk=>(h5 s hs hk).2) i [] (by simpa using h3);rw [h2,List.nil_append]at hv;rw [defsC]at hl hn hf ⊢;rw [List.length_append]at hl hn hf ⊢;by_cases hr:r= []
  ·subst hr;simp only [defsC,List.length_nil,Nat.add_zero]at hl hn hf ⊢;rw [hcl,←Nat.add_assoc]at hl hn hf ⊢;obtain⟨S1,d1,a1,a2,a3,a4⟩:=fe (k:=d.k) (dep:=dep) hv (af _ _ _) hl h0 (fun j k1 k2=>hn j k1 zb) hf;refine⟨S1,d1,a1,a2,a3,fun q=>?_⟩;rw [List.append_nil];refine Eq.trans ?_ (a4 q);unfold Dfn.code;rw [List.append_assoc];rfl
  ·have lr:0<(defsC r (i+(d.code i).length)).length:=by
    cases r with
    |nil=>exact absurd rfl hr
    |cons d2 r2=>rw [defsC];unfold Dfn.code;simp only [List.length_append,List.length_singleton];omega
   obtain⟨S1,d1,a1,a2,a3,a4⟩:=fe (k:=d.k) (dep:=dep) hv (af _ _ _) (S:=S) zb h0 (fun j k1 k2=>hn j k1 zb) (.inl ⟨hn _ zb zb,rfl⟩);have e1:i+(codeF d.κ d.e i).length+1=i+(d.code i).length:=by omega
   rw [e1]at a2 a3 a4;obtain⟨S2,d2,b1,b2,b3,b4⟩:=aR r (i+(d.code i).length) (set.set d.k true) (dims.set d.k d.m) S1 d1 hr h6 zb a3 (fun j k1 k2=>by rw [a2 j zb];exact hn j zb zb) set' (by rw [a2 _ zb,Nat.add_assoc];exact hf);refine⟨S2,d2,by omega,fun j hj=>by rw [b2 j zb,a2 j zb],by rw [←Nat.add_assoc];exact b3,fun q=>?_⟩;rw [List.append_assoc,←Nat.add_assoc];refine Eq.trans ?_ (b4 q);refine Eq.trans ?_ (a4 _);unfold Dfn.code;rw [List.append_assoc];rfl
def aH(n:Nat):List (Option (List Int × List Bool)):=some ([],List.replicate 12 false)::List.replicate n none
theorem ax{n j:Nat}(h:0<j):(aH n).getD j none=none:=by
 unfold aH
 cases j with
 |zero=>omega
 |succ j=>rw [List.getD_cons_succ,List.getD_eq_getElem?_getD,List.getElem?_replicate];split<;>rfl
theorem fw{l:List Ins}{sl:List ByteArray}(h1:l.length≤4000)(h2:WfC sl.length l.length 0 l)(h3:wordsF sl=true)(h4:(setsF l).Nodup):formF l sl=true:=by
 unfold formF;rw [decide_eq_true h1,h3,decide_eq_true h4];simp only [Bool.true_and,Bool.and_true];rw [List.all_eq_true];intro i hi;have:=h2 i (List.mem_range.1 hi)
 rwa [Nat.zero_add]at this
theorem eQ{p:List Dfn}{sl:List ByteArray}(h1:(defsC p 0).length≤4000)(h2:wordsF sl=true)(h3:(p.map Dfn.k).Nodup)(h4:aQ sl.length (List.replicate 12 false) (List.replicate 12 0) p) :
 ∃d:Int,verA (defsC p 0) sl=(d,0):=by
 obtain⟨w1,w2⟩:=bg (n:=(defsC p 0).length) p 0 _ _ h4 zb;have hf:=fw h1 w1 h2 (by rw [w2];exact h3);unfold verA;rw [if_pos hf];by_cases hp:p= []
 ·subst hp;exact⟨0,rfl⟩
 obtain⟨S',dep',-,-,a3,a4⟩:=aR p 0 (List.replicate 12 false) (List.replicate 12 0) (aH (defsC p 0).length) 0 hp h4 (by unfold aH;simp) rfl (fun j k1 _=>ax k1) _ (.inl ⟨ax (by
  cases p with
  |nil=>exact absurd rfl hp
  |cons d r=>rw [defsC];unfold Dfn.code;simp only [List.length_append,List.length_singleton];omega),rfl⟩)
 have e:=a4 [];rw [List.append_nil,goA,a3]at e;have e2:goA (defsC p 0) 0 (aH (defsC p 0).length) (List.replicate 12 0) 0=((dep':Int),0):=e;exact⟨dep',e2⟩
theorem bX{p:List Dfn}(h:p≠[])(i:Nat):0<(defsC p i).length:=by
 cases p with
 |nil=>exact absurd rfl h
 |cons d r=>rw [defsC];unfold Dfn.code;simp only [List.length_append,List.length_singleton];omega
theorem eT{p q:List Dfn}{g:Nat→List Ins}{sl:List ByteArray}(h1:(defsC p 0++guardC g q (defsC p 0).length).length≤4000)(h2:wordsF sl=true)(h3:((p++q).map Dfn.k).Nodup)(h4:aQ sl.length (List.replicate 12 false) (List.replicate 12 0) p)
 (hg:∀i,Ver (fM (List.replicate 12 false) p) (gY (List.replicate 12 0) p) (g i) i [] [1]) (hgn:∀i,g i≠[]) (hgw:∀i n,i+(g i).length≤n→WfC sl.length n i (g i)∧setsF (g i)= [])
 (hq:q≠[]) (h5:aQ sl.length (fM (List.replicate 12 false) p) (gY (List.replicate 12 0) p) q) :
 ∃d:Int,verA (defsC p 0++guardC g q (defsC p 0).length) sl=(d,0):=by
 have lq:=bX hq ((defsC p 0).length+(g (defsC p 0).length).length+1);have lg:0<(g (defsC p 0).length).length:=List.length_pos_iff.2 (hgn _)
 have hlen:(defsC p 0++guardC g q (defsC p 0).length).length=(defsC p 0).length+(g (defsC p 0).length).length+1+(defsC q ((defsC p 0).length+(g (defsC p 0).length).length+1)).length:=by
  unfold guardC;simp only [List.length_append,List.length_cons];omega
 rw [hlen]at h1;obtain⟨w1,w2⟩:=bg (n:=(defsC p 0++guardC g q (defsC p 0).length).length) p 0 _ _ h4 zb;obtain⟨u1,u2⟩:=bg (n:=(defsC p 0++guardC g q (defsC p 0).length).length) q ((defsC p 0).length+(g (defsC p 0).length).length+1) _ _ h5 zb;obtain⟨g1,g2⟩:=hgw (defsC p 0).length (defsC p 0++guardC g q (defsC p 0).length).length zb
 have hf:formF (defsC p 0++guardC g q (defsC p 0).length) sl=true:=by
  refine fw zb ?_ h2 ?_
  ·refine w1.app ?_;rw [Nat.zero_add];exact g1.app (.cons (dX (.inr rfl) zb zb) u1)
  ·rw [aj,w2];unfold guardC;rw [aj,g2,setsF_cons,if_neg (by show ¬(22:Int)=4;decide),u2,List.nil_append,←List.map_append];exact h3
 unfold verA;rw [if_pos hf]
 have hgo:∃dep:Nat,goA (defsC p 0++guardC g q (defsC p 0).length) 0 (aH (defsC p 0++guardC g q (defsC p 0).length).length) (List.replicate 12 0) 0=((dep:Int),0):=by
  -- the definitions ahead
  have hS:∃S1 d1,S1.length=(aH (defsC p 0++guardC g q (defsC p 0).length).length).length∧(∀j,(defsC p 0).length<j→S1.getD j none=none)∧S1.getD (defsC p 0).length none=some ([],fM (List.replicate 12 false) p)∧
   ∀r,goA (defsC p 0++r) 0 (aH (defsC p 0++guardC g q (defsC p 0).length).length) (List.replicate 12 0) 0=goA r (defsC p 0).length S1 (gY (List.replicate 12 0) p) d1:=by
   by_cases hp:p= []
   ·subst hp;exact⟨_,0,rfl,fun j hj=>ax zb,rfl,fun r=>rfl⟩
   ·have lp:=bX hp 0;obtain⟨S1,d1,a1,a2,a3,a4⟩:=aR p 0 (List.replicate 12 false) (List.replicate 12 0) (aH (defsC p 0++guardC g q (defsC p 0).length).length) 0 hp h4 (by unfold aH;simp only [List.length_cons,List.length_replicate];omega) rfl (fun j k1 _=>ax k1) _ (.inl ⟨ax zb,rfl⟩);rw [Nat.zero_add]at a2 a3 a4;exact⟨S1,d1,a1,fun j hj=>by rw [a2 j hj];exact ax zb,a3,a4⟩
  obtain⟨S1,d1,a1,a2,a3,a4⟩:=hS;have hl1:S1.length=(defsC p 0++guardC g q (defsC p 0).length).length+1:=by rw [a1];unfold aH;simp
  rw [hlen]at hl1;rw [a4];unfold guardC;obtain⟨S2,d2,b1,b2,b3,b4,b5⟩:=fB (S:=S1) (dep:=d1) (a:=(defsC p 0).length+(g (defsC p 0).length).length+1+(defsC q ((defsC p 0).length+(g (defsC p 0).length).length+1)).length) (hg _) (hgn _) zb zb a3 (fun j k1 _=>a2 j k1);rw [b5];obtain⟨S3,d3,c1,c2,c3,c4⟩:=aR q ((defsC p 0).length+(g (defsC p 0).length).length+1) _ _ S2 d2 hq h5 zb b3 (fun j k1 k2=>by rw [b2 j zb zb];exact a2 j zb) _ (.inr ⟨_,b4,rfl⟩);have e:=c4 [];rw [List.append_nil,goA,c3]at e;exact⟨d3,e⟩
 obtain⟨dep,hgo⟩:=hgo;exact⟨dep,hgo⟩
theorem fK{i j:Nat}(hi:i≤5)(hj:j<i):slK (namesM i) (letN j)=j:=by
 unfold slK namesM
 have:((List.range i).map letN).findIdx? (fun x=>decide (x=letN j))=some j:=by
  rw [List.findIdx?_eq_some_iff_getElem];refine⟨by simpa using hj,by simp,fun k hk=>?_⟩;simp only [List.getElem_map,List.getElem_range,decide_eq_true_eq];intro e;have:=letN_inj k zb j zb e;omega
 rw [this];rfl
def bz(i:Nat):List Bool:=(List.range 12).map fun k=>decide (k<i)
def bF(l:List (List Int))(i:Nat):List Int:=(List.range 12).map fun k=>if k<i then dimM l k else 0
theorem gG{i k:Nat}(h:k<12):(bz i).getD k false=decide (k<i):=by
 unfold bz;simp [List.getD_eq_getElem?_getD,List.getElem?_map,List.getElem?_range h]
theorem gX{l:List (List Int)}{i k:Nat}(h:k<12):(bF l i).getD k 0=if k<i then dimM l k else 0:=by
 unfold bF;simp [List.getD_eq_getElem?_getD,List.getElem?_map,List.getElem?_range h]
theorem bN{i:Nat}(h:i<12):(bz i).set i true=bz (i+1):=by
 apply List.ext_getElem?;intro k;unfold bz;rw [List.getElem?_set];by_cases hk:k<12
 ·simp only [List.getElem?_map,List.getElem?_range hk,List.length_map,List.length_range,Option.map_some];by_cases e:i=k
  ·subst e;simp [h]
  ·simp [e];omega
 ·rw [List.getElem?_eq_none zi,List.getElem?_eq_none zi];simp;omega
theorem bT{l:List (List Int)}{i:Nat}(h:i<12):(bF l i).set i (dimM l i)=bF l (i+1):=by
 apply List.ext_getElem?;intro k;unfold bF;rw [List.getElem?_set];by_cases hk:k<12
 ·simp only [List.getElem?_map,List.getElem?_range hk,List.length_map,List.length_range,Option.map_some];by_cases e:i=k
  ·subst e;simp [h]
  ·simp only [if_neg e];by_cases hki:k<i
   ·rw [if_pos hki,if_pos zb]
   ·rw [if_neg hki,if_neg zb]
 ·rw [List.getElem?_eq_none zi,List.getElem?_eq_none zi];simp;omega
theorem cZ{l:List (List Int)}{i mm:Nat}(hi:i≤5)(hm:i≤mm){e:Ex}{d:Int}(hf:formedB e=true)(ht:inferF (envM l i) e=(d,0)):jL (slK (namesM i)) e (envM l i) mm (bz i) (bF l i):=fun s hs hk=>by
 have h2:=infer_named e hf (by rw [ht]) hs;obtain⟨j,hj,rfl,h3⟩:=envM_last hi (inpK_none hk) h2;rw [fK hi hj,gG zb,gX zb,if_pos hj,h3];exact⟨by omega,by simpa using hj,rfl⟩
theorem aK(l:List (List Int))(mm:Nat):∀(n i:Nat),i+n≤5→i+n≤mm→aQ mm (bz i) (bF l i) ((List.range' i n).map (dfnM l))
 |0,_,_,_=>trivial
 |n+1,i,h5,hm=>by
  rw [List.range'_succ,List.map_cons];have hb:=dimM_bd l i;obtain⟨g1,g2⟩:=topF_typed (l.getD i []) (envM_ok (l:=l) (i:=i) zb) hb.1 hb.2
  have hdp:(topF (l.getD i []) (envM l i) (dimM l i)).depth≤24:=by
   unfold validB at g2;simp only [Bool.and_eq_true,decide_eq_true_eq]at g2;omega
  refine⟨⟨g1.1,g1.2,hdp,by show i<mm;omega,cZ zb zb g1.1 g1.2⟩, ?_⟩;have:=aK l mm n (i+1) zb zb;rw [←bN zb,←bT zb]at this;exact this
theorem aM:∀(ds:List Dfn) (i:Nat),(∀d∈ds,∀i,(codeF d.κ d.e i).length≤180)→(defsC ds i).length≤181*ds.length
 | [],_,_=>Nat.zero_le _
 |d::r,i,h=>by
  rw [defsC,List.length_append,List.length_cons];have h1:=h d zf i;have h2:=aM r (i+(d.code i).length) (fun b hb=>h b (List.mem_cons_of_mem _ hb));have hcl:(d.code i).length=(codeF d.κ d.e i).length+1:=by unfold Dfn.code;rw [List.length_append];rfl
  omega
theorem bi{n:Nat}(h:n≤5):wordsF (namesM n)=true:=by
 have:n=0∨n=1∨n=2∨n=3∨n=4∨n=5:=by omega
 rcases this with rfl|rfl|rfl|rfl|rfl|rfl<;>decide+kernel
theorem dn{l:List (List Int)}{i:Nat}(hi:i≤5)(k:Nat):(codeF (dfnM l i).κ (dfnM l i).e k).length≤180:=by
 have hb:=dimM_bd l i;obtain⟨g1,-,-,g4⟩:=good_made (l:=l) hi (l.getD i []) hb.1 hb.2;have:=code_len (κ:=slK (namesM i)) _ g1 k;show(codeF (slK (namesM i)) (topF (l.getD i []) (envM l i) (dimM l i)) k).length≤180;omega
theorem bP(l:List (List Int)):∀(n i:Nat),i+n≤12→fM (bz i) ((List.range' i n).map (dfnM l))=bz (i+n)∧gY (bF l i) ((List.range' i n).map (dfnM l))=bF l (i+n)
 |0,i,_=>⟨rfl,rfl⟩
 |n+1,i,h=>by
  rw [List.range'_succ,List.map_cons];have:=bP l n (i+1) zb;rw [←bN zb,←bT zb]at this;rw [show i+(n+1)=i+1+n by omega];exact this
theorem aY(l:List (List Int))(n:Nat):(((List.range' 0 n).map (dfnM l)).map Dfn.k).Nodup:=by
 rw [List.map_map];have:(Dfn.k ∘ dfnM l)=id:=rfl;rw [this,List.map_id];exact List.nodup_range'
theorem av(l:List (List Int))(g:List Int):∃d:Int,verA (madeC l g) (namesM (min l.length 5))=(d,0):=by
 have hlen:(namesM (min l.length 5)).length=min l.length 5:=by unfold namesM;simp
 have z1:List.replicate 12 false=bz 0:=by decide
 have z2:List.replicate 12 (0:Int)=bF l 0:=rfl;unfold madeC;by_cases hg:g= []∨l= []
 ·rw [if_pos hg]
  have hl:=aM ((List.range' 0 (min l.length 5)).map (dfnM l)) 0 (fun d hd i=>by
   obtain⟨k,hk,rfl⟩:=List.mem_map.1 hd;have:=List.mem_range'.1 hk
   exact dn zb i)
  rw [List.length_map,List.length_range']at hl;have hd:=aK l (min l.length 5) (min l.length 5) 0 zb zb;rw [←z1,←z2]at hd;obtain⟨d,h1⟩:=eQ (p:=(List.range' 0 (min l.length 5)).map (dfnM l)) (sl:=namesM (min l.length 5)) zb (bi zb) (aY l _) (by rw [hlen];exact hd);exact⟨d,h1⟩
 ·rw [if_neg hg];have hl0:0<l.length:=List.length_pos_iff.2 fun e=>hg (.inr e);obtain⟨N,hN⟩:∃N,min l.length 5=N+1:=⟨min l.length 5-1,by omega⟩;rw [hN]at hlen ⊢;rw [Nat.add_sub_cancel];have hb:=dimM_bd l N;obtain⟨f1,f2,f3,f4⟩:=good_made (l:=l) (i:=N) zb g (dim:=1) zb zb;have hd:=aK l (N+1) N 0 zb zb;rw [←z1,←z2]at hd;obtain⟨s1,s2⟩:=bP l N 0 zb;rw [←z1,Nat.zero_add]at s1;rw [←z2,Nat.zero_add]at s2;have hq:=aK l (N+1) 1 N zb zb
  have hl1:=aM ((List.range' 0 N).map (dfnM l)) 0 (fun d hd i=>by
   obtain⟨k,hk,rfl⟩:=List.mem_map.1 hd;have:=List.mem_range'.1 hk
   exact dn zb i)
  rw [List.length_map,List.length_range']at hl1
  have hl2:=fun i=>aM [dfnM l N] i (fun d hd i=>by
   rw [List.mem_singleton]at hd;rw [hd]
   exact dn zb i)
  have hlg:=fun i=>code_len (κ:=slK (namesM N)) _ f1 i
  obtain⟨d,h1⟩:=eT (p:=(List.range' 0 N).map (dfnM l)) (q:=[dfnM l N]) (g:=codeF (slK (namesM N)) (topF g (envM l N) 1)) (sl:=namesM (N+1))
   (by
    unfold guardC;simp only [List.length_append,List.length_cons];have a:=hlg (defsC ((List.range' 0 N).map (dfnM l)) 0).length;have b:=hl2 ((defsC ((List.range' 0 N).map (dfnM l)) 0).length+(codeF (slK (namesM N)) (topF g (envM l N) 1) (defsC ((List.range' 0 N).map (dfnM l)) 0).length).length+1);simp only [List.length_singleton]at b
    omega) (bi zb)
   (by
    have:=aY l (N+1);rw [List.range'_concat,List.map_append]at this
    simpa using this) (by rw [hlen];exact hd)
   (fun i=>by
    have:=bv (κ:=slK (namesM N)) (set:=bz N) (dims:=bF l N) (env:=envM l N) _ f1 (by rw [f2]) (fun s hs hk=>((cZ (l:=l) (mm:=12) zb zb f1 f2) s hs hk).2) i [] zi;rw [f2]at this
    rw [s1,s2];exact this)
   (fun i=>af _ _ i) (fun i n hn=>cK _ f1 (fun s hs hk=>by
    have:=((cZ (l:=l) (mm:=N+1) zb zb f1 f2) s hs hk).1
    rw [hlen];exact this) i hn) zf (by rw [hlen,s1,s2];exact hq)
  exact⟨d,h1⟩
theorem gD(m n:Nat)(x:Ins):(shI m n x).n=x.n∧(shI m n x).d=x.d:=by unfold shI;split;exact⟨rfl,rfl⟩;split<;>exact⟨rfl,rfl⟩
theorem aT{m n:Nat}{x:Ins}(h:x.op=21∨x.op=22):(shI m n x).a=x.a+n:=by unfold shI;rw [if_neg zb,if_pos h]
theorem dQ{α:Type}[Inhabited α](f:α→α)(l:List α)(k:Nat)(h:k<l.length):(l.map f).getD k default=f (l.getD k default):=by
 rw [List.getD_eq_getElem?_getD,List.getD_eq_getElem?_getD,List.getElem?_map,List.getElem?_eq_getElem h];rfl
theorem az{α:Type}(a b:List α)(k:Nat)(d:α)(h:k<a.length):(a++b).getD k d=a.getD k d:=by
 rw [List.getD_eq_getElem?_getD,List.getD_eq_getElem?_getD,List.getElem?_append_left h]
theorem aN{α:Type}(a b:List α)(k:Nat)(d:α):(a++b).getD (a.length+k) d=b.getD k d:=by
 rw [List.getD_eq_getElem?_getD,List.getD_eq_getElem?_getD,List.getElem?_append_right zb,Nat.add_sub_cancel_left]
section
variable {S S' R : List (Option (List Int × List Bool))} {s s' : List Int × List Bool} {x : Ins} {i dep dep' m : Nat} {dims dims' : List Int}
theorem Low.zip{a b:List Bool}(ha:Low m a)(hb:Low m b):Low m (List.zipWith (· && ·) a b):=by
 refine⟨by rw [List.length_zipWith,ha.1,hb.1];rfl,fun k hk=>?_⟩;rw [List.getD_eq_getElem?_getD,List.getElem?_zipWith];have h1:=ha.2 k hk;rw [List.getD_eq_getElem?_getD]at h1
 cases e1:a[k]? with
 |none=>rfl
 |some u=>
  cases e2:b[k]? with
  |none=>rfl
  |some v=>rw [e1]at h1;simp at h1;simp [h1]
def iq(m:Nat)(S:List (Option (List Int × List Bool))):Prop:=∀j s,S.getD j none=some s→Low m s.2
theorem dN{k:Nat}(hS:iq m S)(hs:Low m s.2)(h:putA S k s=some S'):iq m S'∧S'.length=S.length∧(k<S.length→S'.getD k none≠none)∧∀j,S.getD j none≠none→S'.getD j none≠none:=by
 unfold putA at h
 cases hk:S.getD k none with
 |none=>
  rw [hk]at h;obtain rfl:=Option.some.inj h;refine⟨fun j u hu=>?_,by rw [List.length_set],fun hl=>by rw [getD_setI,if_pos ⟨rfl,hl⟩];simp,fun j hj=>?_⟩
  ·rw [getD_setI]at hu
   split at hu
   ·obtain rfl:=Option.some.inj hu;exact hs
   ·exact hS j u hu
  ·rw [getD_setI]
   split
   ·simp
   ·exact hj
 |some t=>
  rw [hk]at h;by_cases e:t.1=s.1
  ·simp only [if_pos e]at h;obtain rfl:=Option.some.inj h;refine⟨fun j u hu=>?_,by rw [List.length_set],fun hl=>by rw [getD_setI,if_pos ⟨rfl,hl⟩];simp,fun j hj=>?_⟩
   ·rw [getD_setI]at hu
    split at hu
    ·obtain rfl:=Option.some.inj hu;exact(hS k t hk).zip hs
    ·exact hS j u hu
   ·rw [getD_setI]
    split
    ·simp
    ·exact hj
  ·simp only [if_neg e]at h;cases h
theorem dO{k:Nat}(hk:k<S.length):putA (S++R) k s=(putA S k s).map (· ++R):=by
 unfold putA;rw [az S R k none hk]
 cases S.getD k none with
 |none=>simp [List.set_append_left _ _ hk]
 |some t=>
  by_cases e:t.1=s.1
  ·simp [e,List.set_append_left _ _ hk]
  ·simp [e]
theorem gM(h1:i+1<S.length)(h2:x.op=21∨x.op=22→x.a.toNat<S.length)(h:rndA S x i dims dep=some (S',dims',dep')):rndA (S++R) x i dims dep=some (S'++R,dims',dep'):=by
 unfold rndA at h ⊢;rw [az S R i none zb]
 cases e1:S.getD i none with
 |none=>rw [e1]at h;cases h
 |some s=>
  rw [e1]at h
  cases e2:appA x s dims with
  |none=>simp only [e2]at h;cases h
  |some r=>
   obtain⟨s',d'⟩:=r;simp only [e2]at h ⊢;by_cases e3:24<s'.1.length
   ·rw [if_pos e3]at h;cases h
   rw [if_neg e3]at h ⊢
   have q1:(if x.op=21 then some (S++R)else putA (S++R) (i+1) s')=(if x.op=21 then some S else putA S (i+1) s').map (· ++R):=by
    by_cases o:x.op=21
    ·simp [o]
    ·simp only [if_neg o];exact dO h1
   rw [q1]
   cases e4:(if x.op=21 then some S else putA S (i+1) s')with
   |none=>simp only [e4]at h;cases h
   |some S1=>
    have hl:S1.length=S.length:=by
     by_cases o:x.op=21
     ·rw [if_pos o]at e4;obtain rfl:=Option.some.inj e4;rfl
     ·rw [if_neg o]at e4;unfold putA at e4
      split at e4
      ·obtain rfl:=Option.some.inj e4;rw [List.length_set]
      ·split at e4
       ·obtain rfl:=Option.some.inj e4;rw [List.length_set]
       ·cases e4
    simp only [e4,Option.map_some]at h ⊢
    have q2:(if x.op=21∨x.op=22 then putA (S1++R) x.a.toNat s' else some (S1++R))=(if x.op=21∨x.op=22 then putA S1 x.a.toNat s' else some S1).map (· ++R):=by
     by_cases o:x.op=21∨x.op=22
     ·simp only [if_pos o];exact dO (by rw [hl];exact h2 o)
     ·simp [if_neg o]
    rw [q2]
    cases e5:(if x.op=21∨x.op=22 then putA S1 x.a.toNat s' else some S1)with
    |none=>simp only [e5]at h;cases h
    |some S2=>
     simp only [e5,Option.map_some]at h ⊢;obtain⟨rfl,h6⟩:=Prod.mk.inj (Option.some.inj h);obtain⟨rfl,rfl⟩:=Prod.mk.inj h6;rfl
theorem ig{n:Nat}(hw:wfF m n i x=true)(hs:Low m s.2)(h:appA x s dims=some (s',dims')):Low m s'.2:=by
 unfold appA at h;by_cases o4:x.op=4
 ·simp only [o4]at h;simp at h;obtain⟨-,h1,-⟩:=h;rw [←h1];have:=(wf_rest hw zb).2.2.1 (.inr o4);exact hs.set zb
 ·repeat' split at h
  all_goals first
   |(cases h;done)
   |(obtain⟨rfl,-⟩:=Prod.mk.inj (Option.some.inj h);exact hs)
   |(exfalso;omega)
end
def iZ(m:Nat)(dims:List Int):Prop:=∀k,m≤k→dims.getD k 0=0
theorem fQ{x:Ins}{s s':List Int × List Bool}{dims dims':List Int}{m n i:Nat}(hw:wfF m n i x=true)(hd:iZ m dims)(h:appA x s dims=some (s',dims')):iZ m dims':=by
 unfold appA at h;by_cases o4:x.op=4
 ·simp only [o4]at h;simp at h;obtain⟨-,-,h1⟩:=h;rw [←h1];have:=(wf_rest hw zb).2.2.1 (.inr o4);intro k hk;rw [getD_setI,if_neg (fun c=>by omega)];exact hd k hk
 ·repeat' split at h
  all_goals first
   |(cases h;done)
   |(obtain⟨-,rfl⟩:=Prod.mk.inj (Option.some.inj h);exact hd)
   |(exfalso;omega)
theorem bR{m n:Nat}(R:List (Option (List Int × List Bool)))(l2:List Ins):∀(r:List Ins) (i:Nat) (S:List (Option (List Int × List Bool))) (dims:List Int) (dep:Nat) (d:Int),
 (∀k,k<r.length→wfF m n (i+k) (r.getD k default)=true)→iq m S→iZ m dims→dims.length=12→S.length=n+1→i+r.length=n→(r= []→S.getD i none≠none)→goA r i S dims dep=(d,0)→
 ∃S' dims' dep' set,S'.length=n+1∧iZ m dims'∧dims'.length=12∧S'.getD n none=some ([],set)∧Low m set∧goA (r++l2) i (S++R) dims dep=goA l2 n (S'++R) dims' dep'
 | [],i,S,dims,dep,d,_,hS,hD,hd,hSl,hin,hne,hgo=>by
   obtain rfl:i=n:=by simpa using hin
   rw [goA]at hgo
   cases e:S.getD i none with
   |none=>exact absurd e (hne rfl)
   |some s=>
    rw [e]at hgo;dsimp only at hgo;by_cases h0:s.1= []
    ·exact⟨S,dims,dep,s.2,hSl,hD,hd,by rw [e,←h0],hS i s e,rfl⟩
    ·rw [if_neg h0]at hgo;cases(Prod.mk.inj hgo).2
 |x::r,i,S,dims,dep,d,hw,hS,hD,hd,hSl,hin,hne,hgo=>by
  have hw0:wfF m n i x=true:=hw 0 zf;have hin':i+1+r.length=n:=by simp only [List.length_cons]at hin;omega
  rw [goA]at hgo
  cases e:rndA S x i dims dep with
  |none=>rw [e]at hgo;cases(Prod.mk.inj hgo).2
  |some t=>
   obtain⟨S1,dims1,dep1⟩:=t;rw [e]at hgo;dsimp only at hgo;obtain⟨s,s',S2,g1,g2,g3,g4,g5⟩:=rndA_some e;have hs':=ig hw0 (hS i s g1) g2;have hj:x.op=21∨x.op=22→(i:Int)<x.a∧x.a≤n:=fun o=>(wf_rest hw0 zb).2.2.2.2.1 o
   have a2:iq m S2∧S2.length=S.length∧(x.op≠21→S2.getD (i+1) none≠none):=by
    by_cases o:x.op=21
    ·rw [if_pos o]at g4;obtain rfl:=Option.some.inj g4;exact⟨hS,rfl,fun h=>absurd o h⟩
    ·rw [if_neg o]at g4;obtain⟨k1,k2,k3,-⟩:=dN hS hs' g4;exact⟨k1,k2,fun _=>k3 zb⟩
   have a1:iq m S1∧S1.length=S.length∧(r= []→S1.getD (i+1) none≠none):=by
    by_cases o:x.op=21∨x.op=22
    ·rw [if_pos o]at g5;obtain⟨k1,k2,k3,k4⟩:=dN a2.1 hs' g5;refine⟨k1,k2.trans a2.2.1,fun hr=>?_⟩;have:=hj o;subst hr;simp only [List.length_nil]at hin';have:x.a.toNat=i+1:=by omega
     rw [←this];exact k3 (by rw [a2.2.1];omega)
    ·rw [if_neg o]at g5;obtain rfl:=Option.some.inj g5;exact⟨a2.1,a2.2.1,fun _=>a2.2.2 zb⟩
   obtain⟨S',dims',dep',set,f1,fD,f2,f3,f4,f5⟩:=bR R l2 r (i+1) S1 dims1 dep1 d (fun k hk=>by
    have:=hw (k+1) (by simpa using hk);rw [show i+(k+1)=i+1+k by omega]at this
    exact this) a1.1 (fQ hw0 hD g2) (appA_len hd g2) (a1.2.1.trans hSl) hin' a1.2.2 hgo
   refine⟨S',dims',dep',set,f1,fD,f2,f3,f4, ?_⟩;rw [List.cons_append,goA,gM (R:=R) zb (fun o=>by have:=hj o;omega) e];exact f5
section
variable {m n m2 : Nat} {A : List Bool} {Sc Sb Sb' : List (Option (List Int × List Bool))} {Dc Db Db' : List Int} {s s' : List Int × List Bool} {x : Ins}
theorem RelS.rnd(h:RelS m n m2 A Sc Sb Dc Db)(hm:m+m2≤12){nn i dep dep2 dep':Nat}(hw:wfF m2 nn i x=true)(hr:rndA Sb x i Db dep=some (Sb',Db',dep')) :
 ∃Sc' Dc' dep2',rndA Sc (shI m n x) (n+i) Dc dep2=some (Sc',Dc',dep2')∧RelS m n m2 A Sc' Sb' Dc' Db':=by
 obtain⟨s,s',S1,g1,g2,g3,g4,g5⟩:=rndA_some hr;obtain⟨Dc',a1,a2,a3⟩:=h.app hm hw (h.l12 i s g1) g2;have hop:=shI_op m n x
 have b1:∃Sc1,(if(shI m n x).op=21 then some Sc else putA Sc (n+i+1) (liftS m A s'))=some Sc1∧RelS m n m2 A Sc1 S1 Dc' Db':=by
  rw [hop];by_cases o:x.op=21
  ·rw [if_pos o]at g4 ⊢;obtain rfl:=Option.some.inj g4;exact⟨_,rfl,a2⟩
  ·rw [if_neg o]at g4 ⊢;obtain⟨Sc1,k1,k2⟩:=a2.put a3 g4;exact⟨Sc1,k1,k2⟩
 obtain⟨Sc1,b2,b3⟩:=b1
 have c1:∃Sc2,(if(shI m n x).op=21∨(shI m n x).op=22 then putA Sc1 (shI m n x).a.toNat (liftS m A s')else some Sc1)=some Sc2∧RelS m n m2 A Sc2 Sb' Dc' Db':=by
  rw [hop];by_cases o:x.op=21∨x.op=22
  ·rw [if_pos o]at g5 ⊢;have hj:=(wf_rest hw zb).2.2.2.2.1 o;rw [show(shI m n x).a.toNat=n+x.a.toNat by rw [aT o];omega];exact b3.put a3 g5
  ·rw [if_neg o]at g5 ⊢;obtain rfl:=Option.some.inj g5;exact⟨_,rfl,b3⟩
 obtain⟨Sc2,c2,c3⟩:=c1;refine⟨Sc2,Dc',max dep2 (liftS m A s').1.length, ?_,c3⟩;unfold rndA;rw [h.st i,g1];simp only [Option.map_some,a1];rw [if_neg (show ¬24<(liftS m A s').1.length by show ¬24<s'.1.length;omega),b2];dsimp only;rw [c2]
end
theorem dU{m n m2 nn:Nat}{A:List Bool}(hm:m+m2≤12):∀(r:List Ins) (i:Nat) (Sc Sb:List (Option (List Int × List Bool))) (Dc Db:List Int) (dep dep2:Nat) (d:Int),
 (∀k,k<r.length→wfF m2 nn (i+k) (r.getD k default)=true)→RelS m n m2 A Sc Sb Dc Db→goA r i Sb Db dep=(d,0)→∃d',goA (r.map (shI m n)) (n+i) Sc Dc dep2=(d',0)
 | [],i,Sc,Sb,Dc,Db,dep,dep2,d,_,h,hgo=>by
   rw [goA]at hgo;rw [List.map_nil,goA,h.st i]
   cases e:Sb.getD i none with
   |none=>exact⟨_,rfl⟩
   |some s=>
    rw [e]at hgo;dsimp only [Option.map_some]at hgo ⊢;by_cases h0:s.1= []
    ·rw [if_pos (show(liftS m A s).1= []from h0)];exact⟨_,rfl⟩
    ·rw [if_neg h0]at hgo;cases(Prod.mk.inj hgo).2
 |x::r,i,Sc,Sb,Dc,Db,dep,dep2,d,hw,h,hgo=>by
  rw [goA]at hgo
  cases e:rndA Sb x i Db dep with
  |none=>rw [e]at hgo;cases(Prod.mk.inj hgo).2
  |some t=>
   obtain⟨S1,D1,dep1⟩:=t;rw [e]at hgo;dsimp only at hgo;obtain⟨Sc',Dc',dep2',k1,k2⟩:=h.rnd (dep2:=dep2) hm (hw 0 zf) e;rw [List.map_cons,goA];have k1':rndA Sc (shI m n x) (n+i) Dc dep2=some (Sc',Dc',dep2'):=k1;rw [k1'];dsimp only;rw [show n+i+1=n+(i+1)by omega]
   exact dU hm r (i+1) Sc' S1 Dc' D1 dep1 dep2' d (fun k hk=>by
    have:=hw (k+1) (by simpa using hk);rw [show i+(k+1)=i+1+k by omega]at this
    exact this) k2 hgo
def aG(m:Nat)(l1 l2:List Ins):List Ins:=l1++l2.map (shI m l1.length)
theorem dJ(m:Nat)(l1 l2:List Ins):(aG m l1 l2).length=l1.length+l2.length:=by simp [aG]
theorem iy{m m' n n' i:Nat}{x:Ins}(h:wfF m n i x=true)(hm:m≤m')(hn:n≤n'):wfF m' n' i x=true:=by
 unfold wfF at h ⊢
 repeat' split at h
 all_goals simp_all
 all_goals omega
theorem fV{m m2 n n2 i:Nat}{x:Ins}(h:wfF m2 n2 i x=true):wfF (m+m2) (n+n2) (n+i) (shI m n x)=true:=by
 have hop:=shI_op m n x;obtain⟨hn,hd⟩:=gD m n x;by_cases o1:x.op=1
 ·rw [shI_else zb zb];unfold wfF at h ⊢;rw [if_pos o1]at h ⊢;exact h
 have hr:=wf_rest h o1;unfold wfF;rw [hop,hn,hd,if_neg o1,if_neg zb];by_cases o2:x.op=2
 ·rw [if_pos o2,shI_else zb zb];simpa using hr.2.1 o2
 rw [if_neg o2];by_cases o3:x.op=3∨x.op=4
 ·rw [if_pos o3,shI_slot o3];have:=hr.2.2.1 o3;simp only [decide_eq_true_eq];omega
 rw [if_neg o3];by_cases o5:x.op=5
 ·rw [if_pos o5,shI_else o3 zb];simpa using hr.2.2.2.1 o5
 rw [if_neg o5];by_cases oj:x.op=21∨x.op=22
 ·rw [if_pos oj,aT oj];have:=hr.2.2.2.2.1 oj;simp only [decide_eq_true_eq];omega
 rw [if_neg oj,shI_else o3 oj];unfold wfF at h;rw [if_neg o1,if_neg zb,if_neg o2,if_neg o3,if_neg o5,if_neg oj]at h;exact h
theorem gF(m n:Nat)(l:List Ins)(h:∀x∈l,x.op=4→0≤x.a):setsF (l.map (shI m n))=(setsF l).map fun k=>m+k:=by
 induction l with
 |nil=>rfl
 |cons x r ih=>
  have ih:=ih fun y hy=>h y (List.mem_cons_of_mem _ hy);unfold setsF at *;rw [List.map_cons];by_cases o:x.op=4
  ·rw [List.filter_cons_of_pos (by rw [shI_op];simpa using o),List.filter_cons_of_pos (by simpa using o),List.map_cons,List.map_cons,List.map_cons,ih,shI_slot (.inr o)];have:=h x zf o
   congr 1
   omega
  ·rw [List.filter_cons_of_neg (by rw [shI_op];simpa using o),List.filter_cons_of_neg (by simpa using o),ih]
theorem iG{m n:Nat}{l:List Ins}(h:∀i,i<l.length→wfF m n i (l.getD i default)=true):∀k∈setsF l,k<m:=by
 intro k hk;unfold setsF at hk;obtain⟨x,hx,rfl⟩:=List.mem_map.1 hk;obtain⟨hx,ho⟩:=List.mem_filter.1 hx;obtain⟨i,hi,rfl⟩:=List.mem_iff_getElem.1 hx;have:=h i hi;rw [List.getD_eq_getElem?_getD,List.getElem?_eq_getElem hi]at this;have ho':(l[i]).op=4:=by simpa using ho
 have:=(wf_rest this (by show(l[i]).op≠1;omega)).2.2.1 (.inr ho');have h2:0≤(l[i]).a∧(l[i]).a<m:=this;omega
theorem iV{l:List Ins}{sl:List ByteArray}(h1:l.length≤4000)(h2:∀i,i<l.length→wfF sl.length l.length i (l.getD i default)=true)(h3:sl.length≤12)(h4:sl.all isWord=true)(h5:sl.Nodup)(h6:(setsF l).Nodup):formF l sl=true:=by
 unfold formF wordsF;simp only [Bool.and_eq_true,decide_eq_true_eq,List.all_eq_true,List.mem_range];exact⟨⟨h1,h2⟩,⟨⟨h3,List.all_eq_true.1 h4⟩,h5⟩,h6⟩
theorem bM{n j:Nat}{s:List Int × List Bool}(h:(some ([],List.replicate 12 false)::List.replicate n none:List (Option (List Int × List Bool))).getD j none=some s):s=([],List.replicate 12 false):=by
 cases j with
 |zero=>exact(Option.some.inj h).symm
 |succ j=>
  exfalso;rw [List.getD_cons_succ,List.getD_eq_getElem?_getD,List.getElem?_replicate]at h
  split at h<;>simp at h
theorem iN(m:Nat):Low m (List.replicate 12 false):=⟨by simp,fun k _=>by rw [List.getD_eq_getElem?_getD,List.getElem?_replicate];split<;>rfl⟩
theorem ed{l1 l2:List Ins}{s1 s2 s3:List ByteArray}{d1 d2:Int}(h1:verA l1 s1=(d1,0))(h2:verA l2 s2=(d2,0))(hl:l1.length+l2.length≤4000)(h3:s3.length=s2.length)(hm:s1.length+s3.length≤12)(hw:s3.all isWord=true)(hn:(s1++s3).Nodup) :
 ∃d,verA (aG s1.length l1 l2) (s1++s3)=(d,0):=by
 obtain⟨f1,g1⟩:=ver_form h1;obtain⟨f2,g2⟩:=ver_form h2;obtain⟨-,w1,⟨-,a1,-⟩,n1⟩:=form_all f1;obtain⟨-,w2,-,n2⟩:=form_all f2;have hL:=dJ s1.length l1 l2;have hS:(s1++s3).length=s1.length+s2.length:=by rw [List.length_append,h3]
 have hnn:∀x∈l2,x.op=4→0≤x.a:=fun x hx o=>by
  obtain⟨i,hi,rfl⟩:=List.mem_iff_getElem.1 hx;have:=w2 i hi;rw [List.getD_eq_getElem?_getD,List.getElem?_eq_getElem hi]at this;have h4:0≤(l2[i]).a∧(l2[i]).a<s2.length:=(wf_rest this (by show(l2[i]).op≠1;omega)).2.2.1 (.inr o);exact h4.1
 have hf:formF (aG s1.length l1 l2) (s1++s3)=true:=by
  refine iV zb (fun i hi=>?_) zb (by rw [List.all_append,a1,hw];rfl) hn ?_
  ·rw [hL,hS];rw [hL]at hi;unfold aG;by_cases hi1:i<l1.length
   ·rw [az _ _ _ _ hi1];exact iy (w1 i hi1) zb zb
   ·obtain⟨j,rfl⟩:∃j,i=l1.length+j:=⟨i-l1.length,by omega⟩;rw [aN,dQ _ _ _ zb];exact fV (w2 j zb)
  ·unfold aG;rw [show setsF (l1++l2.map (shI s1.length l1.length))=setsF l1++setsF (l2.map (shI s1.length l1.length))by unfold setsF;rw [List.filter_append,List.map_append],gF _ _ _ hnn,List.nodup_append];refine⟨n1, ?_,fun a ha b hb=>?_⟩
   ·exact List.pairwise_map.2 (List.Pairwise.imp (fun {a b} h e=>h zb) n2)
   ·have:=iG w1 a ha;obtain⟨k,-,rfl⟩:=List.mem_map.1 hb;omega
 unfold verA;rw [if_pos hf]
 obtain⟨S',dims',dep',set,k1,kD,k2,k3,k4,k5⟩:=bR (m:=s1.length) (n:=l1.length) (List.replicate l2.length none) (l2.map (shI s1.length l1.length)) l1 0 (some ([],List.replicate 12 false)::List.replicate l1.length none) (List.replicate 12 0) 0 d1
  (fun k hk=>by rw [Nat.zero_add];exact w1 k hk) (fun j s hs=>by rw [bM hs];exact iN _) (fun k _=>by rw [List.getD_eq_getElem?_getD,List.getElem?_replicate];split<;>rfl) zf zf zf (fun _=>by simp) g1
 have e0:(some ([],List.replicate 12 false)::List.replicate (aG s1.length l1 l2).length none:List (Option (List Int × List Bool)))=(some ([],List.replicate 12 false)::List.replicate l1.length none)++List.replicate l2.length none:=by
  rw [hL,List.cons_append,List.replicate_append_replicate]
 rw [e0];unfold aG;rw [k5];refine dU (m:=s1.length) (n:=l1.length) (m2:=s2.length) (nn:=l2.length) (A:=set) zb l2 0 (S'++List.replicate l2.length none) (some ([],List.replicate 12 false)::List.replicate l2.length none) dims' (List.replicate 12 0) 0 dep' d2 (fun k hk=>by rw [Nat.zero_add];exact w2 k hk) ?_ g2;have h0:∀k:Nat,(List.replicate 12 (0:Int)).getD k 0=0:=fun k=>by rw [List.getD_eq_getElem?_getD,List.getElem?_replicate];split<;>rfl
 refine⟨by simp [k1];omega,fun j=>?_,fun j s hs=>by rw [bM hs];simp,fun k hk=>by rw [kD _ zb,h0],k2,by simp⟩
 cases j with
 |zero=>
  rw [Nat.add_zero,az _ _ _ _ zb,k3];show some ([],set)=some ([],mixL s1.length set (List.replicate 12 false))
  congr 2
  refine(ext12 mixL_len k4.1 fun k hk=>?_).symm;rw [mixL_get hk]
  split
  ·rfl
  ·rw [k4.2 k zb,List.getD_eq_getElem?_getD,List.getElem?_replicate];split<;>rfl
 |succ j=>
  rw [show l1.length+(j+1)=S'.length+j by omega,aN,List.getD_cons_succ]
  cases e:(List.replicate l2.length (none:Option (List Int × List Bool))).getD j none with
  |none=>rfl
  |some u=>
   exfalso;rw [List.getD_eq_getElem?_getD,List.getElem?_replicate]at e
   split at e<;>simp at e
section
variable {l l1 l2 : List Ins} {sl s1 s2 s3 : List ByteArray} {v : Vw} {F : List (Option (List Int × List Bool))} {D : List Int}
theorem gp{x:Ins}{i:Nat}{stk slots:List Val}{st:List (ByteArray × Val)}{e:Int}(h:stepF sl v x i stk slots st= .inr e):e≠0:=by
 unfold stepF at h
 repeat' split at h
 all_goals first
  |(cases h;done)
  |(obtain rfl:=Sum.inr.inj h;assumption)
theorem fC{m n i:Nat}{x:Ins}{stk slots:List Val}{st:List (ByteArray × Val)}(hw:wfF m n i x=true)(hm:m=s1.length):stepF (s1++s3) v x i stk slots st=stepF s1 v x i stk slots st:=by
 unfold stepF;by_cases o4:x.op=4
 ·have:=(wf_rest hw zb).2.2.1 (.inr o4);simp only [o4];rw [az s1 s3 _ _ zb]
 ·simp only [if_neg o4]
theorem fO(C:Cert l1 s1.length F D)(hv:v.ok=true)(X:List Ins):∀(f i:Nat) (stk slots:List Val) (st:List (ByteArray × Val)),At F D i stk slots→s1.length≤slots.length→i≤l1.length→l1.length≤f+i→
 ((runF l1 s1 v f i stk slots st).2≠0∧∀g,(l1++X).length≤g+i→runF (l1++X) (s1++s3) v g i stk slots st=([],(runF l1 s1 v f i stk slots st).2))∨
 ((runF l1 s1 v f i stk slots st).2=0∧∃slots',slots'.length=slots.length∧(∀k,s1.length≤k→slots'.getD k .zero=slots.getD k .zero)∧
   ∀g,(l1++X).length≤g+i→∃g',(l1++X).length≤g'+l1.length∧runF (l1++X) (s1++s3) v g i stk slots st=runF (l1++X) (s1++s3) v g' l1.length [] slots' (runF l1 s1 v f i stk slots st).1):=by
 have hend:∀(f i:Nat) (stk slots:List Val) (st:List (ByteArray × Val)),At F D i stk slots→i=l1.length→runF l1 s1 v f i stk slots st=(st,0)∧stk= []:=fun f i stk slots st hA e=>by
  obtain⟨s,hs,hf⟩:=hA;rw [e]at hs;have h0:=C.last s hs;refine⟨?_, ?_⟩
  ·cases f with
   |zero=>rfl
   |succ f=>rw [runF_succ,if_pos zb]
  ·have:=hf.dims;rw [h0]at this;exact List.map_eq_nil_iff.1 this
 intro f
 induction f with
 |zero=>
  intro i stk slots st hA hs hi hf;obtain⟨h1,rfl⟩:=hend 0 i stk slots st hA zb;rw [h1];refine .inr ⟨rfl,slots,rfl,fun _ _=>rfl,fun g hg=>⟨g,by omega, ?_⟩⟩;rw [show i=l1.length by omega]
 |succ f ih=>
  intro i stk slots st hA hs hi hf;by_cases hie:i=l1.length
  ·obtain⟨h1,rfl⟩:=hend (f+1) i stk slots st hA hie;rw [h1];refine .inr ⟨rfl,slots,rfl,fun _ _=>rfl,fun g hg=>⟨g,by omega, ?_⟩⟩;rw [hie]
  have hi':i<l1.length:=by omega
  have hw:=C.wf i hi';rw [runF_succ,if_neg zb]
  have hL:∀g,(l1++X).length≤g+i→∃g',g=g'+1∧runF (l1++X) (s1++s3) v g i stk slots st=match stepF s1 v (l1.getD i default) i stk slots st with
   | .inl t=>runF (l1++X) (s1++s3) v g' t.1 t.2.1 t.2.2.1 t.2.2.2
   | .inr e=>([],e):=fun g hg=>by
   rw [List.length_append]at hg;obtain⟨g',rfl⟩:∃g',g=g'+1:=⟨g-1,by omega⟩;refine⟨g',rfl, ?_⟩;rw [runF_succ,if_neg (by rw [List.length_append];omega),az l1 X i default hi',fC hw rfl];cases stepF s1 v (l1.getD i default) i stk slots st<;>rfl
  cases e:stepF s1 v (l1.getD i default) i stk slots st with
  |inr c=>
   refine .inl ⟨gp e,fun g hg=>?_⟩;obtain⟨g',rfl,h2⟩:=hL g hg;rw [h2,e]
  |inl t=>
   obtain⟨a1,a2,a3⟩:=dH C hv hi' hA hs e;obtain⟨b1,b2⟩:=step_fwd hw hi' e;dsimp only;rcases ih t.1 t.2.1 t.2.2.1 t.2.2.2 a1 zb b2 zb with ⟨c1,c2⟩|⟨c1,slots',c2,c3,c4⟩
   ·refine .inl ⟨c1,fun g hg=>?_⟩;obtain⟨g',rfl,h2⟩:=hL g hg;rw [h2,e];exact c2 g' zb
   ·refine .inr ⟨c1,slots',c2.trans a2,fun k hk=>(c3 k hk).trans (a3 k hk),fun g hg=>?_⟩;obtain⟨g',rfl,h2⟩:=hL g hg;rw [h2,e];exact c4 g' zb
theorem dM(ren:ByteArray→ByteArray)(hs3:s3=s2.map ren)(hw:∀i,i<l2.length→wfF s2.length l2.length i (l2.getD i default)=true)(st1:List (ByteArray × Val)):∀(f i:Nat) (stk sb sc:List Val) (st:List (ByteArray × Val)),s2.length≤sb.length→s1.length+s2.length≤sc.length→(∀k,k<s2.length→sc.getD (s1.length+k) .zero=sb.getD k .zero)→
 runF (l1++l2.map (shI s1.length l1.length)) (s1++s3) v f (l1.length+i) stk sc (st1++st.map fun p=>(ren p.1,p.2))=if(runF l2 s2 v f i stk sb st).2=0 then(st1++(runF l2 s2 v f i stk sb st).1.map fun p=>(ren p.1,p.2),0)else([],(runF l2 s2 v f i stk sb st).2)
 |0,i,stk,sb,sc,st,_,_,_=>rfl
 |f+1,i,stk,sb,sc,st,hb,hc,hr=>by
  rw [runF_succ,runF_succ];by_cases hi:l2.length≤i
  ·rw [if_pos hi,if_pos zi];rfl
  rw [if_neg hi,if_neg zi,aN,dQ _ _ _ zb];have hwi:=hw i zb;generalize l2.getD i default=x at hwi ⊢;have ih:=dM ren hs3 hw st1 f;have hop:=shI_op s1.length l1.length x;by_cases o1:x.op=1
  ·rw [shI_else zb zb];unfold stepF;rw [if_pos o1,if_pos o1];exact ih (i+1) _ sb sc st hb hc hr
  obtain⟨-,-,w34,-,w21,-⟩:=wf_rest hwi o1;by_cases o3:x.op=3
  ·have ha:=w34 (.inl o3);have et:(shI s1.length l1.length x).a.toNat=s1.length+x.a.toNat:=by rw [shI_slot (.inl o3)];omega
   unfold stepF;rw [hop,et];simp only [o3];simp only [if_neg (show ¬(3:Int)=1 by decide),if_neg (show ¬(3:Int)=2 by decide),if_true];rw [hr _ zb];exact ih (i+1) _ sb sc st hb hc hr
  by_cases o4:x.op=4
  ·have ha:=w34 (.inr o4);have et:(shI s1.length l1.length x).a.toNat=s1.length+x.a.toNat:=by rw [shI_slot (.inr o4)];omega
   unfold stepF;rw [hop,et];simp only [o4];simp only [if_neg (show ¬(4:Int)=1 by decide),if_neg (show ¬(4:Int)=2 by decide),if_neg (show ¬(4:Int)=3 by decide),if_true]
   have hnm:(s1++s3).getD (s1.length+x.a.toNat) ByteArray.empty=ren (s2.getD x.a.toNat ByteArray.empty):=by
    rw [aN,hs3,List.getD_eq_getElem?_getD,List.getD_eq_getElem?_getD,List.getElem?_map,List.getElem?_eq_getElem (show x.a.toNat<s2.length by omega)];rfl
   have:=ih (i+1) stk.dropLast (sb.set x.a.toNat (stk.getLastD .zero)) (sc.set (s1.length+x.a.toNat) (stk.getLastD .zero)) (st++[(s2.getD x.a.toNat ByteArray.empty,stk.getLastD .zero)]) (by rw [List.length_set];exact hb) (by rw [List.length_set];exact hc) (fun k hk=>by
    rw [getD_setI,getD_setI,hr k hk];by_cases ek:x.a.toNat=k
    ·subst ek;rw [if_pos ⟨rfl,by omega⟩,if_pos ⟨rfl,by omega⟩]
    ·rw [if_neg (fun c=>ek zb),if_neg (fun c=>ek c.1)])
   rw [List.map_append,←List.append_assoc]at this;rw [hnm];exact this
  by_cases o21:x.op=21
  ·have ha:=w21 (.inl o21);have et:(shI s1.length l1.length x).a.toNat=l1.length+x.a.toNat:=by rw [aT (.inl o21)];omega
   unfold stepF;rw [hop,et];simp only [o21];simp;exact ih x.a.toNat _ sb sc st hb hc hr
  by_cases o22:x.op=22
  ·have ha:=w21 (.inr o22);have et:(shI s1.length l1.length x).a.toNat=l1.length+x.a.toNat:=by rw [aT (.inr o22)];omega
   unfold stepF;rw [hop,et];simp only [o22];simp;have:=ih (if(stk.getLast?.getD .zero).yes=true then i+1 else x.a.toNat) stk.dropLast sb sc st hb hc hr
   split at this<;>simp_all [Nat.add_assoc]
  rw [shI_else zb zb];unfold stepF;rw [if_neg o1,if_neg o1];by_cases o2:x.op=2
  ·rw [if_pos o2,if_pos o2];exact ih (i+1) _ sb sc st hb hc hr
  rw [if_neg o2,if_neg o2,if_neg o3,if_neg o3,if_neg o4,if_neg o4];by_cases o5:x.op=5
  ·rw [if_pos o5,if_pos o5];by_cases e:(bestF v.years x.a).2.2=0
   ·rw [if_pos e,if_pos e];exact ih (i+1) _ sb sc st hb hc hr
   ·rw [if_neg e,if_neg e];dsimp only;rw [if_neg e]
  rw [if_neg o5,if_neg o5];by_cases o6:x.op=23∨x.op=24
  ·rw [if_pos o6,if_pos o6];exact ih (i+1) _ sb sc st hb hc hr
  rw [if_neg o6,if_neg o6,if_neg o21,if_neg o21,if_neg o22,if_neg o22];by_cases e:(opV (opF x.op) (stk.drop (stk.length-ariF (opF x.op)))).2=0
  ·rw [if_pos e,if_pos e];exact ih (i+1) _ sb sc st hb hc hr
  ·rw [if_neg e,if_neg e];dsimp only;rw [if_neg e]
end
theorem eu{l1 l2:List Ins}{s1 s2:List ByteArray}{d1 d2:Int}{v:Vw}(ren:ByteArray→ByteArray)(h1:verA l1 s1=(d1,0))(h2:verA l2 s2=(d2,0))(hv:v.ok=true)(hm:s1.length+s2.length≤12) :
 runC (aG s1.length l1 l2) (s1++s2.map ren) v=if(runC l1 s1 v).2≠0 then([],(runC l1 s1 v).2)else if(runC l2 s2 v).2≠0 then([],(runC l2 s2 v).2)else((runC l1 s1 v).1++(runC l2 s2 v).1.map fun p=>(ren p.1,p.2),0):=by
 obtain⟨F,D,C⟩:=ver_cert h1;obtain⟨f2,-⟩:=ver_form h2;obtain⟨-,w2,-⟩:=form_all f2;have hL:=dJ s1.length l1 l2;have hz:∀k,(List.replicate 12 Val.zero).getD k .zero= .zero:=fun k=>by rw [List.getD_eq_getElem?_getD,List.getElem?_replicate];split<;>rfl
 unfold runC;have hfr:=fO (s3:=s2.map ren) C hv (l2.map (shI s1.length l1.length)) l1.length 0 [] (List.replicate 12 .zero) [] (aZ C _) zi zb zb;rcases hfr with ⟨c1,c2⟩|⟨c1,slots',c2,c3,c4⟩
 ·rw [if_pos c1];exact c2 _ (by unfold aG;omega)
 ·rw [if_neg zb];obtain⟨g,g1,g2⟩:=c4 (aG s1.length l1 l2).length (by unfold aG;omega);have g2':runF (aG s1.length l1 l2) (s1++s2.map ren) v (aG s1.length l1 l2).length 0 [] (List.replicate 12 .zero) []=_:=g2;rw [g2'];have hb:=dM (s1:=s1) (s3:=s2.map ren) (v:=v) (l1:=l1) ren rfl w2 (runF l1 s1 v l1.length 0 [] (List.replicate 12 .zero) []).1 g 0 [] (List.replicate 12 .zero) slots' [] zi (by rw [c2];simp;omega) (fun k hk=>by rw [c3 _ zb,hz,hz]);rw [List.map_nil,List.append_nil,Nat.add_zero]at hb;rw [hb,run_fuel w2 g l2.length 0 [] _ [] (by simp at g1;omega) zb];by_cases e:(runF l2 s2 v l2.length 0 [] (List.replicate 12 .zero) []).2=0
  ·rw [if_pos e,if_neg zb]
  ·rw [if_neg e,if_pos e]
end Go.Proofs.YtblkcgceefjmjaaGreatDoor
