import Derived.Test.YtfoefpoaomepbaaGreatDoorGMchC
set_option linter.all false
set_option maxHeartbeats 16000000
set_option maxRecDepth 1000000
namespace Go.Proofs.YtfoefpoaomepbaaGreatDoor
open Tryz List
theorem Kj(s:List Bool):zipWith (· && ·) s s=s:=by
 induction s with
 |nil=>rfl
 |cons b r ih=>rw [zipWith_cons_cons,ih];simp
def Ver(sett:List Bool)(dims:List Int)(c:List Ins)(i:Nat)(t t':List Int):Prop:=
 ∀(S:List (Option (List Int × List Bool))) (dep:Nat),i+c.length<S.length->S.getD i none=some (t,sett)->(∀j,i<j->j<i+c.length->S.getD j none=none)->
  (S.getD (i+c.length) none=none\/S.getD (i+c.length) none=some (t',sett))->
  ∃S' dep',S'.length=S.length/\(∀j,i+c.length<j->S'.getD j none=S.getD j none)/\S'.getD (i+c.length) none=some (t',sett)/\∀r,goA (c++r) i S dims dep=goA r (i+c.length) S' dims dep'
section
variable {sett : List Bool} {dims : List Int} {i : Nat} {t t' t2 : List Int}
theorem iR{S:List (Option (List Int × List Bool))}{k:Nat}(h:S.getD k none=none\/S.getD k none=some (t,sett)):iN S k (t,sett)=some (S.set k (some (t,sett))):=by
 unfold iN;rcases h with h|h
 ·rw [h]
 ·rw [h];simp only [if_true];rw [Kj]
theorem Ver.one{x:Ins}(h:eU x (t,sett) dims=some ((t',sett),dims))(hl:t'.length<=24)(h1:x.op≠21)(h2:x.op≠22):Ver sett dims [x] i t t':=by
 intro S dep hi h0 _ hf;have hp:=iR hf;refine⟨S.set (i+1) (some (t',sett)),max dep t'.length,length_set ..,fun j hj=>?_, ?_,fun r=>?_⟩
 ·simp only [length_singleton]at hj;rw [aA,if_neg zb]
 ·simp only [length_singleton]at hi ⊢;rw [aA,if_pos ⟨rfl,hi⟩]
 ·show goA (x::r) i S dims dep=_;rw [goA]
  have e:jL S x i dims dep=some (S.set (i+1) (some (t',sett)),dims,max dep t'.length):=by
   unfold jL;rw [h0];simp only [h];rw [if_neg (by show ¬24<t'.length;omega)];simp only [if_neg h1,if_neg (show ¬(x.op=21\/x.op=22)by omega)];simp only [length_singleton]at hp;rw [hp]
  rw [e];rfl
theorem Ver.seq{a b:List Ins}(h:Ver sett dims a i t t')(g:Ver sett dims b (i+a.length) t' t2)(ha:a≠[])(hb:b≠[]):Ver sett dims (a++b) i t t2:=by
 intro S dep hi h0 hn hf;have la:0<a.length:=length_pos_iff.2 ha;have lb:0<b.length:=length_pos_iff.2 hb;rw [length_append]at hi hn hf ⊢;obtain⟨S1,d1,k1,k2,k3,k4⟩:=h S dep zb h0 (fun j h1 h2=>hn j h1 zb) (.inl (hn _ zb zb));obtain⟨S2,d2,q1,q2,q3,q4⟩:=g S1 d1 zb k3 (fun j h1 h2=>by rw [k2 j h1];exact hn j zb zb) (by rw [k2 _ zb,Nat.add_assoc];exact hf);refine⟨S2,d2,by omega,fun j hj=>?_,by rw [<-Nat.add_assoc];exact q3,fun r=>?_⟩
 ·rw [q2 j zb,k2 j zb]
 ·rw [append_assoc,k4,q4,Nat.add_assoc]
theorem Ver.br{A B C:Nat->List Ins}(hA:Ver sett dims (A i) i t (t++[1]))(hB:∀k,Ver sett dims (B k) k t t')(hC:∀k,Ver sett dims (C k) k t t')(hl:t.length<=24)(hl':t'.length<=24)(nA:A i≠[])(nB:∀k,B k≠[])(nC:∀k,C k≠[]) :
 Ver sett dims (brC A B C i) i t t':=by
 intro S dep hi h0 hn hf;unfold brC at *;have lA:0<(A i).length:=length_pos_iff.2 nA;have hB':=hB (i+(A i).length+1);have lB:0<(B (i+(A i).length+1)).length:=length_pos_iff.2 (nB _);generalize B (i+(A i).length+1)=cB at *;have hC':=hC (i+(A i).length+1+cB.length+1);have lC:0<(C (i+(A i).length+1+cB.length+1)).length:=length_pos_iff.2 (nC _);generalize C (i+(A i).length+1+cB.length+1)=cC at *;generalize A i=cA at *;clear nA nB nC hB hC
 have hlen:i+(cA++⟨22,((i+cA.length+1+cB.length+1:Nat):Int),0,0⟩::(cB++⟨21,((i+cA.length+1+cB.length+1+cC.length:Nat):Int),0,0⟩::cC)).length=i+cA.length+1+cB.length+1+cC.length:=by
  simp only [length_append,length_cons];omega
 rw [hlen]at hi hn hf ⊢
 -- the condition
 obtain⟨S1,d1,a1,a2,a3,a4⟩:=hA S dep zb h0 (fun j h1 h2=>hn j h1 zb) (.inl (hn _ zb zb))
 -- the jump
 have p1:iN S1 (i+cA.length+1) (t,sett)=some (S1.set (i+cA.length+1) (some (t,sett))):=iR (.inl yR)
 have p2:iN (S1.set (i+cA.length+1) (some (t,sett))) (i+cA.length+1+cB.length+1) (t,sett)=some ((S1.set (i+cA.length+1) (some (t,sett))).set (i+cA.length+1+cB.length+1) (some (t,sett))):=
  iR (.inl yL)
 have e1:jL S1 ⟨22,((i+cA.length+1+cB.length+1:Nat):Int),0,0⟩ (i+cA.length) dims d1=some ((S1.set (i+cA.length+1) (some (t,sett))).set (i+cA.length+1+cB.length+1) (some (t,sett)),dims,max d1 t.length):=by
  unfold jL;rw [a3]
  have ea:eU ⟨22,((i+cA.length+1+cB.length+1:Nat):Int),0,0⟩ (t++[1],sett) dims=some ((t,sett),dims):=by
   unfold eU;simp
  simp only [ea];rw [if_neg (by show ¬24<t.length;omega)];simp only [if_neg (show ¬(22:Int)=21 by decide),or_true,if_true,p1,Int.toNat_natCast,p2]
 have l2:((S1.set (i+cA.length+1) (some (t,sett))).set (i+cA.length+1+cB.length+1) (some (t,sett))).length=S.length:=by rw [length_set,length_set,a1]
 have g2:∀j,i+cA.length<j->j≠i+cA.length+1->j≠i+cA.length+1+cB.length+1->((S1.set (i+cA.length+1) (some (t,sett))).set (i+cA.length+1+cB.length+1) (some (t,sett))).getD j none=S.getD j none:=fun j h1 h2 h3=>by
  rw [aA,if_neg zb,aA,if_neg zb,a2 j h1]
 have g3:((S1.set (i+cA.length+1) (some (t,sett))).set (i+cA.length+1+cB.length+1) (some (t,sett))).getD (i+cA.length+1) none=some (t,sett):=by
  rw [aA,if_neg zb,aA,if_pos ⟨rfl,by omega⟩]
 have g4:((S1.set (i+cA.length+1) (some (t,sett))).set (i+cA.length+1+cB.length+1) (some (t,sett))).getD (i+cA.length+1+cB.length+1) none=some (t,sett):=by
  rw [aA,if_pos ⟨rfl,by rw [length_set];omega⟩]
 generalize(S1.set (i+cA.length+1) (some (t,sett))).set (i+cA.length+1+cB.length+1) (some (t,sett))=S2 at *
 -- the one way
 obtain⟨S3,d3,b1,b2,b3,b4⟩:=hB' S2 (max d1 t.length) zb g3 (fun j h1 h2=>by rw [g2 j zb zb zb];exact hn j zb zb) (.inl (by rw [g2 _ zb zb zb];exact hn _ zb zb))
 -- the jump to the end
 have p3:iN S3 (i+cA.length+1+cB.length+1+cC.length) (t',sett)=some (S3.set (i+cA.length+1+cB.length+1+cC.length) (some (t',sett))):=iR (by rw [b2 _ zb,g2 _ zb zb zb];exact hf)
 have e3:jL S3 ⟨21,((i+cA.length+1+cB.length+1+cC.length:Nat):Int),0,0⟩ (i+cA.length+1+cB.length) dims d3=some (S3.set (i+cA.length+1+cB.length+1+cC.length) (some (t',sett)),dims,max d3 t'.length):=by
  unfold jL;rw [b3]
  have ea:eU ⟨21,((i+cA.length+1+cB.length+1+cC.length:Nat):Int),0,0⟩ (t',sett) dims=some ((t',sett),dims):=by
   unfold eU;simp
  simp only [ea];rw [if_neg (by show ¬24<t'.length;omega)];simp only [if_true,true_or,Int.toNat_natCast,p3]
 obtain⟨S4,d4,c1,c2,c3,c4⟩:=hC' (S3.set (i+cA.length+1+cB.length+1+cC.length) (some (t',sett))) (max d3 t'.length) (by rw [length_set];omega) (by rw [aA,if_neg zb,b2 _ zb];exact g4)
  (fun j h1 h2=>by rw [aA,if_neg zb,b2 j zb,g2 j zb zb zb];exact hn j zb zb) (.inr (by rw [aA,if_pos ⟨rfl,by omega⟩]))
 refine⟨S4,d4,by rw [c1,length_set];omega,fun j hj=>?_,c3,fun r=>?_⟩
 ·rw [c2 j hj,aA,if_neg zb,b2 j zb,g2 j zb zb zb]
 ·rw [append_assoc,a4,cons_append,goA,e1];simp only;rw [append_assoc,b4,cons_append,goA,e3];simp only;rw [c4]
end
theorem dP(κ:ByteArray->Nat)(e:Ex)(i:Nat):codeF κ e i≠[]:=by
 rw [codeF_eq];unfold iE brC
 (repeat' split)<;>simp
def Be(κ:ByteArray->Nat)(env:List (ByteArray × Int))(sett:List Bool)(dims:List Int)(e:Ex):Prop:=
 ay e=true->(az env e).2=0->(∀s,aP s e=true->jd s=none->sett.getD (κ s) false=true/\dims.getD (κ s) 0=(fB env s).1)->
  ∀(i:Nat) (t:List Int),t.length+e.depth<=24->Ver sett dims (codeF κ e i) i t (t++[(az env e).1])
theorem Pi{s:ByteArray}{k:Nat}(h:jd s=some k):lJ.getD k 0=df s.toList/\df s.toList≠0:=by
 have key:∀k,k<11->lJ.getD k 0=df (fC k).toList/\df (fC k).toList≠0:=by decide+kernel
 obtain⟨h1,rfl⟩:=qC h;exact key k h1
theorem xM{a:Ex}:∀{xs:List Ex},a∈xs->a.depth<=Ex.depths xs
 |e::r,h=>by
  rw [Ex.depths];rcases mem_cons.1 h with rfl|h
  ·omega
  ·have:=xM h;omega
section
variable {env : List (ByteArray × Int)} {κ : ByteArray -> Nat} {sett : List Bool} {dims : List Int}
theorem Kw{op n d m:Int}{s:ByteArray}{xs:List Ex}(ih:∀a∈xs,Be κ env sett dims a):Be κ env sett dims (.mk op n d m s xs):=by
 intro hf ht hn i t hdp;have hnames:∀a∈xs,∀u,aP u a=true->jd u=none->sett.getD (κ u) false=true/\dims.getD (κ u) 0=(fB env u).1:=fun a ha u h1 h2=>hn u yB h2;rw [ay,Bool.and_eq_true,decide_eq_true_eq]at hf;obtain⟨hlen,hf⟩:=hf;rw [Ex.depth]at hdp;rw [az]at ht ⊢;rw [codeF];unfold iE;unfold fo at ht ⊢;have l24:(t++[(0:Int)]).length<=24:=by rw [length_append,length_singleton];omega
 have l25:∀z:Int,(t++[z]).length<=24:=fun z=>by rw [length_append,length_singleton];omega
 by_cases h1:op=1
 ·simp only [if_pos h1];exact Ver.one (by unfold eU;rw [if_pos rfl]) (l25 _) (by show(1:Int)≠21;decide) (by show(1:Int)≠22;decide)
 by_cases h2:op=2
 ·have h3:¬op=3:=by omega
  simp only [if_neg h1,if_pos h2,if_neg h3]at ht ⊢;have hns:=hn s (by rw [aP,h2];simp);unfold BV
  cases hk:jd s with
  |some k=>
   obtain⟨k1,k2⟩:=Pi hk;unfold fB;rw [if_pos k2];exact Ver.one (x:=⟨2,(k:Int),0,0⟩) (by unfold eU;dsimp only;rw [if_neg zf,if_pos rfl,Int.toNat_natCast,k1]) (l25 _) (by show(2:Int)≠21;decide) (by show(2:Int)≠22;decide)
  |none=>
   obtain⟨k1,k2⟩:=hns hk;exact Ver.one (x:=⟨3,(κ s:Int),0,0⟩) (by unfold eU;dsimp only;rw [if_neg zf,if_neg zf,if_neg zf,if_neg zf,if_pos rfl,Int.toNat_natCast,if_pos k1,k2]) (l25 _) (by show(3:Int)≠21;decide) (by show(3:Int)≠22;decide)
 by_cases h3:op=3
 ·simp only [if_neg h1,if_neg h2,if_pos h3];exact Ver.one (by unfold eU;simp) (l25 _) (by show(5:Int)≠21;decide) (by show(5:Int)≠22;decide)
 simp only [if_neg h1,if_neg h2,if_neg h3]at hf ht ⊢;have hfs:=(Bool.and_eq_true_iff.1 hf).1;by_cases c1:(aW env xs).2≠0
 ·rw [if_pos c1]at ht;exact absurd ht c1
 rw [if_neg c1]at ht ⊢;obtain⟨hd,hts⟩:=pG (Decidable.not_not.1 c1);rw [hd]at ht ⊢;by_cases c2:ag op (xs.map fun e=>(az env e).1)=0
 ·rw [if_pos c2]at ht;cases ht
 rw [if_neg c2];clear ht c1 hd;have hfa:=jI hfs;have hgo:∀a∈xs,∀(k:Nat) (u:List Int),u.length+Ex.depths xs<=24->Ver sett dims (codeF κ a k) k u (u++[(az env a).1]):=fun a ha k u hu=>ih a ha (hfa a ha) (hts a ha) (hnames a ha) k u (by have:=xM ha;omega);clear ih hn hnames hfs hf hfa hts;have lt0:t.length<=24:=by omega
 by_cases h17:op=17
 ·subst h17
  obtain⟨a,b,rfl⟩:∃a b,xs= [a,b]:=by
   exact Pq
  have e:ag 17 [(az env a).1,(az env b).1]=if(az env a).1=1/\(az env b).1=1 then 1 else 0:=rfl
  rw [map_cons,map_cons,map_nil,e]at c2 ⊢
  split at c2<;>rename_i c
  ·rw [if_pos c,if_pos rfl];have ga:=hgo a zd i t zb;rw [c.1]at ga;exact Ver.br ga (fun k=>by have:=hgo b zd k t zb;rw [c.2]at this;exact this) (fun k=>Ver.one (by unfold eU;simp) (l25 _) zf zf) lt0 (l25 _) (dP _ _ _) (fun k=>dP _ _ _) (fun k=>by simp)
  ·exact absurd rfl c2
 by_cases h18:op=18
 ·subst h18
  obtain⟨a,b,rfl⟩:∃a b,xs= [a,b]:=by
   exact Pq
  have e:ag 18 [(az env a).1,(az env b).1]=if(az env a).1=1/\(az env b).1=1 then 1 else 0:=rfl
  rw [map_cons,map_cons,map_nil,e]at c2 ⊢
  split at c2<;>rename_i c
  ·rw [if_pos c,if_neg zf,if_pos rfl];have ga:=hgo a zd i t zb;rw [c.1]at ga;exact Ver.br ga (fun k=>Ver.one (by unfold eU;simp) (l25 _) zf zf) (fun k=>by have:=hgo b zd k t zb;rw [c.2]at this;exact this) lt0 (l25 _) (dP _ _ _) (fun k=>by simp) (fun k=>dP _ _ _)
  ·exact absurd rfl c2
 by_cases h21:op=21
 ·subst h21
  obtain⟨a,b,c,rfl⟩:∃a b c,xs= [a,b,c]:=by
   exact Tq
  have e:ag 21 [(az env a).1,(az env b).1,(az env c).1]=if(az env a).1=1/\(az env b).1=(az env c).1 then(az env b).1 else 0:=rfl
  rw [map_cons,map_cons,map_cons,map_nil,e]at c2 ⊢
  split at c2<;>rename_i cc
  ·rw [if_pos cc,if_neg zf,if_neg zf,if_pos rfl];have ga:=hgo a zd i t zb;rw [cc.1]at ga;exact Ver.br ga (fun k=>hgo b zd k t zb) (fun k=>by have:=hgo c zd k t zb;rw [<-cc.2]at this;exact this) lt0 (l25 _) (dP _ _ _) (fun k=>dP _ _ _) (fun k=>dP _ _ _)
  ·exact absurd rfl c2
 simp only [if_neg h17,if_neg h18,if_neg h21]
 have hop:(4<=op/\op<=16)\/op=19\/op=20:=by
  unfold aJ at hlen
  (repeat' split at hlen)<;>omega
 obtain⟨m1,m2,m3⟩:=BO hop;by_cases h6:op<=6
 ·obtain⟨a,rfl⟩:∃a,xs= [a]:=by
   have e:aJ op=1:=by unfold aJ;rw [if_neg zb,if_pos zb]
   rw [e]at hlen;exact length_eq_one_iff.1 zb
  simp only [bP,fw,append_nil];have ha:fZ op=1:=by unfold fZ;rw [if_pos zb]
  refine Ver.seq (hgo a zd i t zb) (Ver.one ?_ (l25 _) (by show lH op≠21;omega) (by show lH op≠22;omega)) (dP _ _ _) zd;unfold eU;simp only;rw [if_neg zb,if_neg zb,if_neg zb,if_neg zb,if_neg zb,if_neg zb,if_neg zb,if_neg zb,m1,ha,length_append,length_singleton,if_neg zb,Nat.add_sub_cancel,drop_left,take_left];rw [map_cons,map_nil]at c2;rw [if_neg c2];rfl
 ·obtain⟨a,b,rfl⟩:∃a b,xs= [a,b]:=by
   have e:aJ op=2:=by unfold aJ;rw [if_neg zb,if_neg zb,if_pos zb]
   rw [e]at hlen
   match xs,hlen with
   | [a,b],_=>exact⟨a,b,rfl⟩
   | [],h=>simp at h
   | [_],h=>simp at h
   |_::_::_::_,h=>simp at h;omega
  simp only [bP,fw,append_nil];have ha:fZ op=2:=by unfold fZ;rw [if_neg zb]
  have g1:=hgo b zd (i+(codeF κ a i).length) (t++[(az env a).1]) (by rw [length_append,length_singleton];omega);refine Ver.seq (Ver.seq (hgo a zd i t zb) g1 (dP _ _ _) (dP _ _ _)) (Ver.one ?_ (l25 _) (by show lH op≠21;omega) (by show lH op≠22;omega)) (by simp [dP]) zd;unfold eU;simp only;have ht2:t++[(az env a).1]++[(az env b).1]=t++[(az env a).1,(az env b).1]:=by simp
  have hl2:(t++[(az env a).1,(az env b).1]).length-2=t.length:=by simp
  rw [ht2,if_neg zb,if_neg zb,if_neg zb,if_neg zb,if_neg zb,if_neg zb,if_neg zb,if_neg zb,m1,ha,if_neg zd,hl2,drop_left,take_left];rw [map_cons,map_cons,map_nil]at c2;show(if ag op [(az env a).1,(az env b).1]=0 then none else some ((t++[ag op [(az env a).1,(az env b).1]],sett),dims))=_;rw [if_neg c2];rfl
end
mutual
theorem Bo{env:List (ByteArray × Int)}{κ:ByteArray->Nat}{sett:List Bool}{dims:List Int}:∀e:Ex,Be κ env sett dims e
 | .mk _ _ _ _ _ xs=>Kw (wE xs)
theorem wE{env:List (ByteArray × Int)}{κ:ByteArray->Nat}{sett:List Bool}{dims:List Int}:∀xs:List Ex,∀a∈xs,Be κ env sett dims a
 | [],_,ha=>by cases ha
 |e::r,a,ha=>by
  rcases mem_cons.1 ha with h|ha
  ·rw [h];exact Bo e
  ·exact wE r a ha
end
section
variable {sett : List Bool} {dims : List Int} {i k : Nat} {m : Int} {c : List Ins}
theorem FM(hc:Ver sett dims c i [] [m])(hne:c≠[]){S:List (Option (List Int × List Bool))}{dep:Nat}(hi:i+c.length+1<S.length)(h0:S.getD i none=some ([],sett))(hn:∀j,i<j->j<=i+c.length->S.getD j none=none)
 {set':List Bool} (hf:(S.getD (i+c.length+1) none=none/\set'=sett.set k true)\/∃u,S.getD (i+c.length+1) none=some ([],u)/\set'=zipWith (· && ·) u (sett.set k true)) :
 ∃S' dep',S'.length=S.length/\(∀j,i+c.length+1<j->S'.getD j none=S.getD j none)/\S'.getD (i+c.length+1) none=some ([],set')/\∀r,goA (c++⟨4,(k:Int),0,0⟩::r) i S dims dep=goA r (i+c.length+1) S' (dims.set k m) dep':=by
 have lc:0<c.length:=length_pos_iff.2 hne;obtain⟨S1,d1,a1,a2,a3,a4⟩:=hc S dep zb h0 (fun j h1 h2=>hn j h1 zb) (.inl (hn _ zb (Nat.le_refl _)));have ea:eU ⟨4,(k:Int),0,0⟩ ([m],sett) dims=some (([],sett.set k true),dims.set k m):=by unfold eU;simp
 have hp:iN S1 (i+c.length+1) ([],sett.set k true)=some (S1.set (i+c.length+1) (some ([],set'))):=by
  unfold iN;rw [a2 _ zb];rcases hf with ⟨h1,h2⟩|⟨u,h1,h2⟩
  ·rw [h1,h2]
  ·rw [h1,h2];simp
 have e1:jL S1 ⟨4,(k:Int),0,0⟩ (i+c.length) dims d1=some (S1.set (i+c.length+1) (some ([],set')),dims.set k m,max d1 0):=by
  unfold jL;rw [a3];simp only [ea];rw [if_neg (by show ¬24<0;omega)];simp only [if_neg (show ¬(4:Int)=21 by decide),if_neg (show ¬((4:Int)=21\/(4:Int)=22)by decide),hp];rfl
 refine⟨S1.set (i+c.length+1) (some ([],set')),max d1 0,by rw [length_set,a1],fun j hj=>?_, ?_,fun r=>?_⟩
 ·rw [aA,if_neg zb,a2 j zb]
 ·rw [aA,if_pos ⟨rfl,by omega⟩]
 ·rw [a4,goA,e1]
theorem Ht(hc:Ver sett dims c i [] [1])(hne:c≠[]){S:List (Option (List Int × List Bool))}{dep a:Nat}(hi:a<S.length)(ha:i+c.length+1<a)(h0:S.getD i none=some ([],sett))(hn:∀j,i<j->j<=a->S.getD j none=none) :
 ∃S' dep',S'.length=S.length/\(∀j,i+c.length+1<j->j≠a->S'.getD j none=S.getD j none)/\S'.getD (i+c.length+1) none=some ([],sett)/\S'.getD a none=some ([],sett)/\∀r,goA (c++⟨22,(a:Int),0,0⟩::r) i S dims dep=goA r (i+c.length+1) S' dims dep':=by
 have lc:0<c.length:=length_pos_iff.2 hne;obtain⟨S1,d1,a1,a2,a3,a4⟩:=hc S dep zb h0 (fun j h1 h2=>hn j h1 zb) (.inl (hn _ zb zb));have ea:eU ⟨22,(a:Int),0,0⟩ ([1],sett) dims=some (([],sett),dims):=by unfold eU;simp
 have p1:iN S1 (i+c.length+1) ([],sett)=some (S1.set (i+c.length+1) (some ([],sett))):=iR (.inl yR)
 have p2:iN (S1.set (i+c.length+1) (some ([],sett))) a ([],sett)=some ((S1.set (i+c.length+1) (some ([],sett))).set a (some ([],sett))):=
  iR (.inl yL)
 have e1:jL S1 ⟨22,(a:Int),0,0⟩ (i+c.length) dims d1=some ((S1.set (i+c.length+1) (some ([],sett))).set a (some ([],sett)),dims,max d1 0):=by
  unfold jL;rw [a3];simp only [ea];rw [if_neg (by show ¬24<0;omega)];simp only [if_neg (show ¬(22:Int)=21 by decide),or_true,if_true,p1,Int.toNat_natCast,p2];rfl
 refine⟨(S1.set (i+c.length+1) (some ([],sett))).set a (some ([],sett)),max d1 0,by rw [length_set,length_set,a1],fun j hj hja=>?_, ?_, ?_,fun r=>?_⟩
 ·rw [aA,if_neg zb,aA,if_neg zb,a2 j zb]
 ·rw [aA,if_neg zb,aA,if_pos ⟨rfl,by omega⟩]
 ·rw [aA,if_pos ⟨rfl,by rw [length_set];omega⟩]
 ·rw [a4,goA,e1]
end
section
variable {l : List Ins} {sl : List ByteArray} {v : Vw} {slots : List Val} {st : List (ByteArray × Val)} {i k : Nat} {x : Val}
end
def WfC(m n i:Nat)(c:List Ins):Prop:=∀k,k<c.length->wfF m n (i+k) (c.getD k default)=true
theorem WfC.nil{m n i:Nat}:WfC m n i []:=fun k hk=>by simp at hk
theorem WfC.app{m n i:Nat}{a b:List Ins}(ha:WfC m n i a)(hb:WfC m n (i+a.length) b):WfC m n i (a++b):=fun k hk=>by
 by_cases h:k<a.length
 ·have e:(a++b).getD k default=a.getD k default:=by simp [getD_eq_getElem?_getD,getElem?_append_left h]
  rw [e];exact ha k h
 ·have e:(a++b).getD k default=b.getD (k-a.length) default:=by simp [getD_eq_getElem?_getD,getElem?_append_right (Nat.le_of_not_lt h)]
  rw [length_append]at hk;have:=hb (k-a.length) zb;rw [show i+a.length+(k-a.length)=i+k by omega]at this;rw [e];exact this
theorem WfC.one{m n i:Nat}{x:Ins}(h:wfF m n i x=true):WfC m n i [x]:=fun k hk=>by
 obtain rfl:k=0:=by simp at hk;omega
 exact h
theorem WfC.cons{m n i:Nat}{x:Ins}{b:List Ins}(h:wfF m n i x=true)(hb:WfC m n (i+1) b):WfC m n i (x::b):=WfC.app (a:=[x]) (.one h) hb
theorem fK(a b:List Ins):bN (a++b)=bN a++bN b:=by unfold bN;rw [filter_append,map_append]
theorem DX{m n i a:Nat}{o:Int}(ho:o=21\/o=22)(h1:i<a)(h2:a<=n):wfF m n i ⟨o,(a:Int),0,0⟩=true:=by
 unfold wfF;dsimp only;rw [if_neg zb,if_neg zd,if_neg zb,if_neg zb,if_neg zb,if_pos ho];simp;omega
theorem xY{m n i k:Nat}{o:Int}(ho:o=3\/o=4)(h:k<m):wfF m n i ⟨o,(k:Int),0,0⟩=true:=by
 unfold wfF;dsimp only;rw [if_neg zb,if_neg zd,if_neg zb,if_pos ho];simp;omega
theorem Ko{m n i:Nat}{A B C:Nat->List Ins}(h:i+(brC A B C i).length<=n)(hA:i+(A i).length<=n->WfC m n i (A i)/\bN (A i)= [])(hB:∀k,k+(B k).length<=n->WfC m n k (B k)/\bN (B k)= [])(hC:∀k,k+(C k).length<=n->WfC m n k (C k)/\bN (C k)= []) :
 WfC m n i (brC A B C i)/\bN (brC A B C i)= []:=by
 unfold brC at *;have hB':=hB (i+(A i).length+1);generalize B (i+(A i).length+1)=cB at *;have hC':=hC (i+(A i).length+1+cB.length+1);generalize C (i+(A i).length+1+cB.length+1)=cC at *;generalize A i=cA at *;simp only [length_append,length_cons]at h;obtain⟨a1,a2⟩:=hA zb;obtain⟨b1,b2⟩:=hB' zb;obtain⟨c1,c2⟩:=hC' zb;refine⟨a1.app (.cons (DX (.inr rfl) zb zb) (b1.app (.cons (DX (.inl rfl) zb zb) c1))), ?_⟩;rw [fK,a2,cK,if_neg (by show ¬(22:Int)=4;decide),fK,b2,cK,if_neg (by show ¬(21:Int)=4;decide),c2];rfl
def WfE(κ:ByteArray->Nat)(m n:Nat)(e:Ex):Prop:=
 ay e=true->(∀s,aP s e=true->jd s=none->κ s<m)->∀i,i+(codeF κ e i).length<=n->WfC m n i (codeF κ e i)/\bN (codeF κ e i)= []
theorem NI{κ:ByteArray->Nat}{m n:Nat}{op nn d mm:Int}{s:ByteArray}{xs:List Ex}(ih:∀a∈xs,WfE κ m n a):WfE κ m n (.mk op nn d mm s xs):=by
 intro hf hn i hl;have hnames:∀a∈xs,∀u,aP u a=true->jd u=none->κ u<m:=fun a ha u h1 h2=>hn u yB h2;rw [ay,Bool.and_eq_true,decide_eq_true_eq]at hf;obtain⟨hlen,hf⟩:=hf;rw [codeF]at hl ⊢;unfold iE at hl ⊢;by_cases h1:op=1
 ·simp only [if_pos h1]at hf hl ⊢;refine⟨.one ?_,rfl⟩;have hd:=kG (Bool.and_eq_true_iff.1 hf).1;unfold wfF;rw [if_pos rfl,hd.1];simp;omega
 by_cases h2:op=2
 ·simp only [if_neg h1,if_pos h2]at hf hl ⊢;have hns:=hn s (by rw [aP,h2];simp);unfold BV
  cases hk:jd s with
  |some k=>
   have hk11:=(qC hk).1;refine⟨.one ?_,rfl⟩;unfold wfF;dsimp only;rw [if_neg zf,if_neg zd,if_pos rfl];simp;omega
  |none=>exact⟨.one (xY (.inl rfl) (hns hk)),rfl⟩
 by_cases h3:op=3
 ·simp only [if_neg h1,if_neg h2,if_pos h3]at hf hl ⊢;refine⟨.one ?_,rfl⟩;simp only [Bool.and_eq_true,decide_eq_true_eq]at hf;unfold wfF;dsimp only;rw [if_neg zf,if_neg zd,if_neg zf,if_neg zf,if_pos rfl];simp;omega
 simp only [if_neg h1,if_neg h2,if_neg h3]at hf hl ⊢;have hfs:=(Bool.and_eq_true_iff.1 hf).1;have hfa:=jI hfs;have hgo:∀a∈xs,∀k,k+(codeF κ a k).length<=n->WfC m n k (codeF κ a k)/\bN (codeF κ a k)= []:=fun a ha k h=>ih a ha (hfa a ha) (hnames a ha) k h;clear ih hn hnames hfs hf hfa
 have hyes:∀(o:Int),o=23\/o=24->∀k,WfC m n k [⟨o,0,0,0⟩]/\bN [⟨o,0,0,0⟩]= []:=fun o ho k=>⟨.one (by
  unfold wfF;dsimp only;rw [if_neg zb,if_neg zd,if_neg zb,if_neg zb,if_neg zb,if_neg zb,if_pos ho]
  simp),by rw [cK,if_neg (by show ¬o=4;omega)];rfl⟩
 by_cases h17:op=17
 ·subst h17
  obtain⟨a,b,rfl⟩:∃a b,xs= [a,b]:=by
   exact Pq
  rw [if_pos rfl]at hl ⊢;exact Ko hl (fun h=>hgo a zd i h) (fun k h=>hgo b zd k h) (fun k _=>hyes 24 (.inr rfl) k)
 by_cases h18:op=18
 ·subst h18
  obtain⟨a,b,rfl⟩:∃a b,xs= [a,b]:=by
   exact Pq
  rw [if_neg zf,if_pos rfl]at hl ⊢;exact Ko hl (fun h=>hgo a zd i h) (fun k _=>hyes 23 (.inl rfl) k) (fun k h=>hgo b zd k h)
 by_cases h21:op=21
 ·subst h21
  obtain⟨a,b,c,rfl⟩:∃a b c,xs= [a,b,c]:=by
   exact Tq
  rw [if_neg zf,if_neg zf,if_pos rfl]at hl ⊢;exact Ko hl (fun h=>hgo a zd i h) (fun k h=>hgo b zd k h) (fun k h=>hgo c zd k h)
 simp only [if_neg h17,if_neg h18,if_neg h21]at hl ⊢
 have hop:(4<=op/\op<=16)\/op=19\/op=20:=by
  unfold aJ at hlen
  (repeat' split at hlen)<;>omega
 obtain⟨m1,m2,m3⟩:=BO hop
 have hx:∀k,wfF m n k ⟨lH op,0,0,0⟩=true:=fun k=>by
  unfold wfF;dsimp only;rw [if_neg zb,if_neg zd,if_neg zb,if_neg zb,if_neg zb,if_neg zb,if_neg zb,m1];simp;omega
 have hs1:bN [(⟨lH op,0,0,0⟩:Ins)]= []:=by rw [cK,if_neg (by show ¬lH op=4;omega)];rfl
 have hseq:∀(ys:List Ex),(∀a∈ys,a∈xs)->∀k,k+(fw (bP κ ys) k).length<=n->WfC m n k (fw (bP κ ys) k)/\bN (fw (bP κ ys) k)= []:=by
  intro ys
  induction ys with
  |nil=>intro _ k _;exact⟨.nil,rfl⟩
  |cons a r ihr=>
   intro hsub k hk;simp only [bP,fw,length_append]at hk ⊢;obtain⟨a1,a2⟩:=hgo a (hsub a zd) k zb;obtain⟨b1,b2⟩:=ihr (fun b hb=>hsub b (mem_cons_of_mem _ hb)) (k+(codeF κ a k).length) zb;exact⟨a1.app b1,by rw [fK,a2,b2];rfl⟩
 rw [length_append,length_singleton]at hl;obtain⟨s1,s2⟩:=hseq xs (fun a h=>h) i zb;exact⟨s1.app (.one (hx _)),by rw [fK,s2,hs1];rfl⟩
mutual
theorem FL{κ:ByteArray->Nat}{m n:Nat}:∀e:Ex,WfE κ m n e
 | .mk _ _ _ _ _ xs=>NI (Bl xs)
theorem Bl{κ:ByteArray->Nat}{m n:Nat}:∀xs:List Ex,∀a∈xs,WfE κ m n a
 | [],_,ha=>by cases ha
 |e::r,a,ha=>by
  rcases mem_cons.1 ha with h|ha
  ·rw [h];exact FL e
  ·exact Bl r a ha
end
structure Dfn where
 κ:ByteArray->Nat
 e:Ex
 k:Nat
 m:Int
 env:List (ByteArray × Int)
 ρ:List (ByteArray × Val)->List (ByteArray × Val):=id
def Dfn.code(d:Dfn)(i:Nat):List Ins:=codeF d.κ d.e i++[⟨4,(d.k:Int),0,0⟩]
def aj:List Dfn->Nat->List Ins
 | [],_=>[]
 |d::r,i=>d.code i++aj r (i+(d.code i).length)
def T9(κ:ByteArray->Nat)(e:Ex)(env:List (ByteArray × Int))(mm:Nat)(set:List Bool)(dims:List Int):Prop:=
 ∀s,aP s e=true->jd s=none->κ s<mm/\set.getD (κ s) false=true/\dims.getD (κ s) 0=(fB env s).1
def jR(mm:Nat):List Bool->List Int->List Dfn->Prop
 |_,_,[]=>True
 |sQ,dims,d::r=>(ay d.e=true/\az d.env d.e=(d.m,0)/\d.e.depth<=24/\d.k<mm/\T9 d.κ d.e d.env mm sQ dims)/\jR mm (sQ.set d.k true) (dims.set d.k d.m) r
def qm(set:List Bool)(ds:List Dfn):List Bool:=ds.foldl (fun s d=>s.set d.k true) set
def rZ(dims:List Int)(ds:List Dfn):List Int:=ds.foldl (fun s d=>s.set d.k d.m) dims
theorem Aa{mm n:Nat}:∀(ds:List Dfn) (i:Nat) (set:List Bool) (dims:List Int),jR mm set dims ds->i+(aj ds i).length<=n->WfC mm n i (aj ds i)/\bN (aj ds i)=ds.map Dfn.k
 | [],i,_,_,_,_=>⟨.nil,rfl⟩
 |d::r,i,sQ,dims,h,hl=>by
  obtain⟨⟨h1,h2,h3,h4,h5⟩,h6⟩:=h;rw [aj]at hl ⊢;rw [length_append]at hl;obtain⟨b1,b2⟩:=Aa (mm:=mm) (n:=n) r (i+(d.code i).length) _ _ h6 zb;have hcl:(d.code i).length=(codeF d.κ d.e i).length+1:=by unfold Dfn.code;rw [length_append];rfl
  obtain⟨a1,a2⟩:=FL (κ:=d.κ) (m:=mm) (n:=n) d.e h1 (fun s hs hk=>(h5 s hs hk).1) i zb;refine⟨WfC.app ?_ b1, ?_⟩
  ·exact a1.app (.one (xY (.inr rfl) h4))
  ·rw [fK,b2];unfold Dfn.code;rw [fK,a2,cK,if_pos rfl];simp [bN]
theorem sS{mm:Nat}:∀(ds:List Dfn) (i:Nat) (sQ:List Bool) (dims:List Int) (S:List (Option (List Int × List Bool))) (dep:Nat),ds≠[]->jR mm sQ dims ds->i+(aj ds i).length<S.length->S.getD i none=some ([],sQ)->
 (∀j,i<j->j<i+(aj ds i).length->S.getD j none=none)->∀set',((S.getD (i+(aj ds i).length) none=none/\set'=qm sQ ds)\/∃u,S.getD (i+(aj ds i).length) none=some ([],u)/\set'=zipWith (· && ·) u (qm sQ ds))->
 ∃S' dep',S'.length=S.length/\(∀j,i+(aj ds i).length<j->S'.getD j none=S.getD j none)/\S'.getD (i+(aj ds i).length) none=some ([],set')/\∀r,goA (aj ds i++r) i S dims dep=goA r (i+(aj ds i).length) S' (rZ dims ds) dep'
 | [],_,_,_,_,_,h,_,_,_,_,_,_=>absurd rfl h
 |d::r,i,sQ,dims,S,dep,_,h,hl,h0,hn,set',hf=>by
  obtain⟨⟨h1,h2,h3,h4,h5⟩,h6⟩:=h;have hcl:(d.code i).length=(codeF d.κ d.e i).length+1:=by unfold Dfn.code;rw [length_append];rfl
  have hv:=Bo (κ:=d.κ) (sett:=sQ) (dims:=dims) (env:=d.env) d.e h1 (by rw [h2]) (fun s hs hk=>(h5 s hs hk).2) i [] (by simpa using h3);rw [h2,nil_append]at hv;rw [aj]at hl hn hf ⊢;rw [length_append]at hl hn hf ⊢;by_cases hr:r= []
  ·subst hr;simp only [aj,length_nil,Nat.add_zero]at hl hn hf ⊢;rw [hcl,<-Nat.add_assoc]at hl hn hf ⊢;obtain⟨S1,d1,a1,a2,a3,a4⟩:=FM (k:=d.k) (dep:=dep) hv (dP _ _ _) hl h0 (fun j k1 k2=>hn j k1 zb) hf;refine⟨S1,d1,a1,a2,a3,fun q=>?_⟩;rw [append_nil];refine Eq.trans ?_ (a4 q);unfold Dfn.code;rw [append_assoc];rfl
  ·have lr:0<(aj r (i+(d.code i).length)).length:=by
    cases r with
    |nil=>exact absurd rfl hr
    |cons d2 r2=>rw [aj];unfold Dfn.code;simp only [length_append,length_singleton];omega
   obtain⟨S1,d1,a1,a2,a3,a4⟩:=FM (k:=d.k) (dep:=dep) hv (dP _ _ _) (S:=S) zb h0 (fun j k1 k2=>hn j k1 zb) (.inl ⟨hn _ zb zb,rfl⟩);have e1:i+(codeF d.κ d.e i).length+1=i+(d.code i).length:=by omega
   rw [e1]at a2 a3 a4;obtain⟨S2,d2,b1,b2,b3,b4⟩:=sS r (i+(d.code i).length) (sQ.set d.k true) (dims.set d.k d.m) S1 d1 hr h6 zb a3 (fun j k1 k2=>by rw [a2 j zb];exact hn j zb zb) set' (by rw [a2 _ zb,Nat.add_assoc];exact hf);refine⟨S2,d2,by omega,fun j hj=>by rw [b2 j zb,a2 j zb],by rw [<-Nat.add_assoc];exact b3,fun q=>?_⟩;rw [append_assoc,<-Nat.add_assoc];refine Eq.trans ?_ (b4 q);refine Eq.trans ?_ (a4 _);unfold Dfn.code;rw [append_assoc];rfl
theorem BB{S S':List (Option (List Int × List Bool))}{x:Ins}{i dep dep':Nat}{dims dims':List Int}(h:jL S x i dims dep=some (S',dims',dep')) :
 ∃s s',S.getD i none=some s/\eU x s dims=some (s',dims')/\s'.1.length<=24/\dep'=max dep s'.1.length:=by
 unfold jL at h
 cases h1:S.getD i none with
 |none=>rw [h1]at h;cases h
 |some s=>
  rw [h1]at h
  cases h2:eU x s dims with
  |none=>simp only [h2]at h;cases h
  |some r=>
   obtain⟨s',d'⟩:=r;simp only [h2]at h;by_cases h3:24<s'.1.length
   ·rw [if_pos h3]at h;cases h
   rw [if_neg h3]at h
   cases h4:(if x.op=21 then some S else iN S (i+1) s')with
   |none=>simp only [h4]at h;cases h
   |some S1=>
    simp only [h4]at h
    cases h5:(if x.op=21\/x.op=22 then iN S1 x.a.toNat s' else some S1)with
    |none=>simp only [h5]at h;cases h
    |some S2=>
     simp only [h5]at h;obtain⟨-,h6⟩:=Prod.mk.inj (Option.some.inj h);obtain⟨rfl,rfl⟩:=Prod.mk.inj h6;exact⟨s,s',rfl,h2,by omega,rfl⟩
theorem AO:∀(r:List Ins) (i:Nat) (S:List (Option (List Int × List Bool))) (dims:List Int) (dep:Nat) (d:Int),goA r i S dims dep=(d,0)->dep<=24->(dep:Int)<=d/\d<=24
 | [],i,S,dims,dep,d,h,h24=>by
   rw [goA]at h
   cases e:S.getD i none with
   |none=>
    rw [e]at h;obtain⟨rfl,-⟩:=Prod.mk.inj h;omega
   |some s=>
    rw [e]at h;by_cases he:s.1= []
    ·simp only [if_pos he]at h;obtain⟨rfl,-⟩:=Prod.mk.inj h;omega
    ·simp only [if_neg he]at h;cases(Prod.mk.inj h).2
 |x::r,i,S,dims,dep,d,h,h24=>by
  rw [goA]at h
  cases e:jL S x i dims dep with
  |none=>rw [e]at h;cases(Prod.mk.inj h).2
  |some t=>
   obtain⟨S',dims',dep'⟩:=t;rw [e]at h;obtain⟨s,s',-,-,h3,rfl⟩:=BB e;have:=AO r (i+1) S' dims' _ d h zb;omega
theorem Js{x:Ins}{r:List Ins}{i:Nat}{S:List (Option (List Int × List Bool))}{dims:List Int}{d:Int}{set:List Bool}(hx:x.op≠21)(h0:S.getD i none=some ([],set))(h:goA (x::r) i S dims 0=(d,0)):1<=d:=by
 rw [goA]at h
 cases e:jL S x i dims 0 with
 |none=>rw [e]at h;cases(Prod.mk.inj h).2
 |some t=>
  obtain⟨S',dims',dep'⟩:=t;rw [e]at h;obtain⟨s,s',e1,e2,h3,rfl⟩:=BB e;rw [h0]at e1;obtain rfl:=Option.some.inj e1
  have hl:1<=s'.1.length:=by
   unfold eU at e2;dsimp only at e2;have hp:∀z:Int,(([]:List Int)++[z]).length=1:=fun z=>rfl;by_cases h1:x.op=1
   ·rw [if_pos h1]at e2;obtain⟨rfl,-⟩:=Prod.mk.inj (Option.some.inj e2);exact Nat.le_refl 1
   rw [if_neg h1]at e2;by_cases h1:x.op=2
   ·rw [if_pos h1]at e2;obtain⟨rfl,-⟩:=Prod.mk.inj (Option.some.inj e2);exact Nat.le_refl 1
   rw [if_neg h1]at e2;by_cases h1:x.op=5
   ·rw [if_pos h1]at e2;obtain⟨rfl,-⟩:=Prod.mk.inj (Option.some.inj e2);exact Nat.le_refl 1
   rw [if_neg h1]at e2;by_cases h1:x.op=23\/x.op=24
   ·rw [if_pos h1]at e2;obtain⟨rfl,-⟩:=Prod.mk.inj (Option.some.inj e2);exact Nat.le_refl 1
   rw [if_neg h1]at e2;by_cases h1:x.op=3
   ·rw [if_pos h1]at e2
    split at e2
    ·obtain⟨rfl,-⟩:=Prod.mk.inj (Option.some.inj e2);exact Nat.le_refl 1
    ·cases e2
   rw [if_neg h1]at e2;by_cases h1:x.op=4
   ·rw [if_pos h1,if_pos rfl]at e2;cases e2
   rw [if_neg h1]at e2;by_cases h1:x.op=22
   ·rw [if_pos h1,if_pos (.inl rfl)]at e2;cases e2
   rw [if_neg h1,if_neg hx,if_pos (by unfold fZ;split<;>simp)]at e2;cases e2
  have:=AO r (i+1) S' dims' _ d h zb;omega
mutual
theorem xP{κ:ByteArray->Nat}:∀(e:Ex),ay e=true->∀i,∃x r,codeF κ e i=x::r/\x.op≠21
 | .mk op n d m s xs,hf,i=>by
   rw [ay,Bool.and_eq_true,decide_eq_true_eq]at hf;obtain⟨hlen,hf⟩:=hf;rw [codeF];unfold iE;by_cases h1:op=1
   ·rw [if_pos h1];exact⟨_,_,rfl,by show(1:Int)≠21;decide⟩
   by_cases h2:op=2
   ·rw [if_neg h1,if_pos h2];refine⟨_,_,rfl, ?_⟩;unfold BV
    split
    ·show(2:Int)≠21;decide
    ·show(3:Int)≠21;decide
   by_cases h3:op=3
   ·rw [if_neg h1,if_neg h2,if_pos h3];exact⟨_,_,rfl,by show(5:Int)≠21;decide⟩
   rw [if_neg h1,if_neg h2,if_neg h3]at hf ⊢;have hfs:=(Bool.and_eq_true_iff.1 hf).1
   have hne:xs≠[]:=fun e=>by
    subst e;simp only [length_nil]at hlen;unfold aJ at hlen
    (repeat' split at hlen)<;>omega
   obtain⟨a,r,rfl⟩:=exists_cons_of_ne_nil hne;obtain⟨x,q,e,hx⟩:=uY (κ:=κ) (a::r) hfs a zd i
   have hbr:∀B C:Nat->List Ins,∃y p,brC (codeF κ a) B C i=y::p/\y.op≠21:=fun B C=>by
    unfold brC;rw [e];exact⟨x,_,rfl,hx⟩
   split
   ·exact hbr _ _
   split
   ·exact hbr _ _
   split
   ·exact hbr _ _
   ·simp only [bP,fw];rw [e];exact⟨x,_,rfl,hx⟩
theorem uY{κ:ByteArray->Nat}:∀(xs:List Ex),aC xs=true->∀a∈xs,∀i,∃x r,codeF κ a i=x::r/\x.op≠21
 | [],_,_,ha,_=>by cases ha
 |e::r,hf,a,ha,i=>by
  rw [aC,Bool.and_eq_true]at hf;rcases mem_cons.1 ha with h|ha
  ·rw [h];exact xP e hf.1 i
  ·exact uY r hf.2 a ha i
end
def dB(g:Nat->List Ins)(ds:List Dfn)(i:Nat):List Ins:=g i++⟨22,((i+(g i).length+1+(aj ds (i+(g i).length+1)).length:Nat):Int),0,0⟩::aj ds (i+(g i).length+1)
def rD(n:Nat):List (Option (List Int × List Bool)):=some ([],List.replicate 12 false)::List.replicate n none
theorem kP{n j:Nat}(h:0<j):(rD n).getD j none=none:=by
 unfold rD
 cases j with
 |zero=>omega
 |succ j=>rw [getD_cons_succ,getD_eq_getElem?_getD,getElem?_replicate];split<;>rfl
theorem PE{l:List Ins}{sl:List ByteArray}(h1:l.length<=4000)(h2:WfC sl.length l.length 0 l)(h3:eO sl=true)(h4:(bN l).Nodup):fu l sl=true:=by
 unfold fu;rw [decide_eq_true h1,h3,decide_eq_true h4];simp only [Bool.true_and,Bool.and_true];rw [all_eq_true];intro i hi;have:=h2 i (mem_range.1 hi)
 rwa [Nat.zero_add]at this
theorem xN{p:List Dfn}(h:p≠[])(i:Nat):0<(aj p i).length:=by
 cases p with
 |nil=>exact absurd rfl h
 |cons d r=>rw [aj];unfold Dfn.code;simp only [length_append,length_singleton];omega
theorem Fp{p:List Dfn}(h:p≠[]){mm:Nat}{set:List Bool}{dims:List Int}(hd:jR mm set dims p)(i:Nat):∃x r,aj p i=x::r/\x.op≠21:=by
 cases p with
 |nil=>exact absurd rfl h
 |cons d r=>
  obtain⟨x,q,hx,ho⟩:=xP (κ:=d.κ) d.e hd.1.1 i;rw [aj];unfold Dfn.code;rw [hx];exact⟨x,_,rfl,ho⟩
theorem Eu{p q:List Dfn}{g:Nat->List Ins}{sl:List ByteArray}(h1:(aj p 0++dB g q (aj p 0).length).length<=4000)(h2:eO sl=true)(h3:((p++q).map Dfn.k).Nodup)(h4:jR sl.length (List.replicate 12 false) (List.replicate 12 0) p)
 (hg:∀i,Ver (qm (List.replicate 12 false) p) (rZ (List.replicate 12 0) p) (g i) i [] [1]) (hgh:∀i,∃x r,g i=x::r/\x.op≠21) (hgw:∀i n,i+(g i).length<=n->WfC sl.length n i (g i)/\bN (g i)= [])
 (hq:q≠[]) (h5:jR sl.length (qm (List.replicate 12 false) p) (rZ (List.replicate 12 0) p) q) :
 ∃d:Int,verA (aj p 0++dB g q (aj p 0).length) sl=(d,0)/\1<=d/\d<=24:=by
 have hgn:∀i,g i≠[]:=fun i=>by
  obtain⟨x,r,e,-⟩:=hgh i;rw [e];simp
 have lq:=xN hq ((aj p 0).length+(g (aj p 0).length).length+1);have lg:0<(g (aj p 0).length).length:=length_pos_iff.2 (hgn _)
 have hlen:(aj p 0++dB g q (aj p 0).length).length=(aj p 0).length+(g (aj p 0).length).length+1+(aj q ((aj p 0).length+(g (aj p 0).length).length+1)).length:=by
  unfold dB;simp only [length_append,length_cons];omega
 rw [hlen]at h1;obtain⟨w1,w2⟩:=Aa (n:=(aj p 0++dB g q (aj p 0).length).length) p 0 _ _ h4 zb;obtain⟨u1,u2⟩:=Aa (n:=(aj p 0++dB g q (aj p 0).length).length) q ((aj p 0).length+(g (aj p 0).length).length+1) _ _ h5 zb;obtain⟨g1,g2⟩:=hgw (aj p 0).length (aj p 0++dB g q (aj p 0).length).length zb
 have hf:fu (aj p 0++dB g q (aj p 0).length) sl=true:=by
  refine PE zb ?_ h2 ?_
  ·refine w1.app ?_;rw [Nat.zero_add];exact g1.app (.cons (DX (.inr rfl) zb zb) u1)
  ·rw [fK,w2];unfold dB;rw [fK,g2,cK,if_neg (by show ¬(22:Int)=4;decide),u2,nil_append,<-map_append];exact h3
 unfold verA;rw [if_pos hf]
 have hgo:∃dep:Nat,goA (aj p 0++dB g q (aj p 0).length) 0 (rD (aj p 0++dB g q (aj p 0).length).length) (List.replicate 12 0) 0=((dep:Int),0):=by
  -- the definitions ahead
  have hS:∃S1 d1,S1.length=(rD (aj p 0++dB g q (aj p 0).length).length).length/\(∀j,(aj p 0).length<j->S1.getD j none=none)/\S1.getD (aj p 0).length none=some ([],qm (List.replicate 12 false) p)/\
   ∀r,goA (aj p 0++r) 0 (rD (aj p 0++dB g q (aj p 0).length).length) (List.replicate 12 0) 0=goA r (aj p 0).length S1 (rZ (List.replicate 12 0) p) d1:=by
   by_cases hp:p= []
   ·subst hp;exact⟨_,0,rfl,fun j hj=>kP zb,rfl,fun r=>rfl⟩
   ·have lp:=xN hp 0;obtain⟨S1,d1,a1,a2,a3,a4⟩:=sS p 0 (List.replicate 12 false) (List.replicate 12 0) (rD (aj p 0++dB g q (aj p 0).length).length) 0 hp h4 (by unfold rD;simp only [length_cons,length_replicate];omega) rfl (fun j k1 _=>kP k1) _ (.inl ⟨kP zb,rfl⟩);rw [Nat.zero_add]at a2 a3 a4;exact⟨S1,d1,a1,fun j hj=>by rw [a2 j hj];exact kP zb,a3,a4⟩
  obtain⟨S1,d1,a1,a2,a3,a4⟩:=hS;have hl1:S1.length=(aj p 0++dB g q (aj p 0).length).length+1:=by rw [a1];unfold rD;simp
  rw [hlen]at hl1;rw [a4];unfold dB;obtain⟨S2,d2,b1,b2,b3,b4,b5⟩:=Ht (S:=S1) (dep:=d1) (a:=(aj p 0).length+(g (aj p 0).length).length+1+(aj q ((aj p 0).length+(g (aj p 0).length).length+1)).length) (hg _) (hgn _) zb zb a3 (fun j k1 _=>a2 j k1);rw [b5];obtain⟨S3,d3,c1,c2,c3,c4⟩:=sS q ((aj p 0).length+(g (aj p 0).length).length+1) _ _ S2 d2 hq h5 zb b3 (fun j k1 k2=>by rw [b2 j zb zb];exact a2 j zb) _ (.inr ⟨_,b4,rfl⟩);have e:=c4 [];rw [append_nil,goA,c3]at e;exact⟨d3,e⟩
 obtain⟨dep,hgo⟩:=hgo;refine⟨dep,hgo, ?_,(AO _ _ _ _ _ _ hgo zb).2⟩
 have hh:∃x r,aj p 0++dB g q (aj p 0).length=x::r/\x.op≠21:=by
  by_cases hp:p= []
  ·subst hp;obtain⟨x,r,e,ho⟩:=hgh 0;unfold dB;simp only [aj,length_nil,nil_append];rw [e];exact⟨x,_,rfl,ho⟩
  ·obtain⟨x,r,e,ho⟩:=Fp hp h4 0;rw [e];exact⟨x,_,rfl,ho⟩
 obtain⟨x,r,e,ho⟩:=hh;rw [e]at hgo;exact Js ho rfl hgo
def gD:List (ByteArray × Ex)->List (ByteArray × Int)->List (ByteArray × Int) × Int
 | [],env=>(env,0)
 |t::r,env=>
  if df t.1.toList≠0\/dI t.1=false then([],5)
  else if env.any (fun p=>decide (p.1=t.1))=true then([],10)
  else if(aQ env t.2).2≠0 then([],(aQ env t.2).2)else gD r (env++[(t.1,(aQ env t.2).1)])
def dn(l:List (ByteArray × Ex)):List (ByteArray × Int) × Int:=if 10<l.length then([],7)else gD l []
def dC(env:List (ByteArray × Int))(e:Ex)(want:Int):Int:=if(aQ env e).2=0/\(aQ env e).1≠want then 6 else(aQ env e).2
def jN:List Int->List Int->Bool
 |_,[]=>false
 |pre,x::r=>pre.contains x || jN (pre++[x]) r
def su:List Int->Bool
 | []=>true
 |x::r=>(match r with| []=>true|y::_=>decide (x<y))&&su r
def grG(env:List (ByteArray × Int)):List Int->List (Int × Ex × Ex)->Int
 |_,[]=>0
 |pre,g::r=>if pre.contains g.1=true then 10 else if dC env g.2.1 1≠0 then dC env g.2.1 1 else if dC env g.2.2 4≠0 then dC env g.2.2 4 else grG env (pre++[g.1]) r
def reG(env:List (ByteArray × Int)):List Int->List (Int × Ex)->Int
 |_,[]=>0
 |pre,g::r=>if pre.contains g.1=true then 10 else if dC env g.2 2≠0 then dC env g.2 2 else reG env (pre++[g.1]) r
def bM(V:dK):Int:=
 if(dn V.le).2≠0 then(dn V.le).2
 else if jN [] (V.cr.map Prod.fst)=true then 10
 else if su (V.se.map Prod.fst)=false then 1
 else if grG (dn V.le).1 [] V.gr≠0 then grG (dn V.le).1 [] V.gr
 else reG (dn V.le).1 [] V.re
structure jQ(ls:List (ByteArray × Ex))(k:Nat)(env:List (ByteArray × Int)):Prop where
 all:gD ls []=gD (ls.drop k) env
 len:env.length=k
 nm:env.map Prod.fst=(ls.take k).map Prod.fst
theorem jQ.zero(ls:List (ByteArray × Ex)):jQ ls 0 []:=⟨rfl,rfl,by simp⟩
def fA(env:List (ByteArray × Int))(t:ByteArray × Ex):Int:=
 if df t.1.toList≠0\/dI t.1=false then 5 else if env.any (fun p=>decide (p.1=t.1))=true then 10 else(aQ env t.2).2
theorem jQ.drop{ls:List (ByteArray × Ex)}{k:Nat}(hk:k<ls.length):ls.drop k=ls.getD k default::ls.drop (k+1):=by
 rw [drop_eq_getElem_cons hk,getD_eq_getElem?_getD,getElem?_eq_getElem hk];rfl
theorem jQ.bad{ls:List (ByteArray × Ex)}{k:Nat}{env:List (ByteArray × Int)}(h:jQ ls k env)(hk:k<ls.length)(hb:fA env (ls.getD k default)≠0):gD ls []=([],fA env (ls.getD k default)):=by
 rw [h.all,jQ.drop hk,gD];unfold fA at hb ⊢
 split
 ·rfl
 ·rename_i h1
  rw [if_neg h1]at hb
  split
  ·rfl
  ·rename_i h2
   rw [if_neg h2]at hb;rw [if_pos hb]
theorem jQ.next{ls:List (ByteArray × Ex)}{k:Nat}{env:List (ByteArray × Int)}(h:jQ ls k env)(hk:k<ls.length)(hb:fA env (ls.getD k default)=0):jQ ls (k+1) (env++[((ls.getD k default).1,(aQ env (ls.getD k default).2).1)]):=by
 refine⟨?_,by rw [length_append,h.len];rfl, ?_⟩
 ·rw [h.all,jQ.drop hk,gD];unfold fA at hb
  split at hb
  ·cases hb
  ·rename_i h1
   rw [if_neg h1]
   split at hb
   ·cases hb
   ·rename_i h2
    rw [if_neg h2,if_neg (by simpa using hb)]
 ·rw [map_append,h.nm,take_succ_eq_append_getElem hk,map_append];simp [getD_eq_getElem?_getD,getElem?_eq_getElem hk]
theorem jQ.done{ls:List (ByteArray × Ex)}{env:List (ByteArray × Int)}(h:jQ ls ls.length env):gD ls []=(env,0):=by
 rw [h.all,drop_length,gD]
theorem jQ.dup{ls:List (ByteArray × Ex)}{k:Nat}{env:List (ByteArray × Int)}(h:jQ ls k env)(hk:k<=ls.length)(s:ByteArray):env.any (fun p=>decide (p.1=s))=(List.range k).any fun j=>decide ((ls.getD j default).1=s):=by
 have h1:env.any (fun p=>decide (p.1=s))=(env.map Prod.fst).any fun x=>decide (x=s):=by rw [any_map];rfl
 rw [h1,h.nm,any_map,Bool.eq_iff_iff,any_eq_true,any_eq_true];constructor
 ·rintro⟨t,ht,hs⟩;obtain⟨j,hj,rfl⟩:=mem_take_iff_getElem.1 ht;have:j<ls.length:=by omega
  exact⟨j,mem_range.2 zb,by simpa [getD_eq_getElem?_getD,getElem?_eq_getElem this]using hs⟩
 ·rintro⟨j,hj,hs⟩;have hj:=mem_range.1 hj;have:j<ls.length:=by omega
  exact⟨ls[j],mem_take_iff_getElem.2 ⟨j,by omega,rfl⟩,by simpa [getD_eq_getElem?_getD,getElem?_eq_getElem this]using hs⟩
theorem qy{ls:List (ByteArray × Ex)}(h:ls.length<=10):dn ls=gD ls []:=by unfold dn;rw [if_neg zb]
theorem mo{α:Type}[Inhabited α]{l:List α}{k:Nat}(hk:k<l.length):l.drop k=l.getD k default::l.drop (k+1):=by
 rw [drop_eq_getElem_cons hk,getD_eq_getElem?_getD,getElem?_eq_getElem hk];rfl
theorem sW{α:Type}[Inhabited α]{l:List α}{k:Nat}(hk:k<l.length):l.take (k+1)=l.take k++[l.getD k default]:=by
 exact Po
theorem sV{l:List Int}{k:Nat}{x:Int}(hk:k<=l.length):(l.take k).contains x=(List.range k).any fun j=>decide (l.getD j 0=x):=by
 rw [Bool.eq_iff_iff,contains_iff_mem,any_eq_true];constructor
 ·intro h;obtain⟨j,hj,rfl⟩:=mem_take_iff_getElem.1 h;have:j<l.length:=by omega
  exact⟨j,mem_range.2 zb,by simp [getD_eq_getElem?_getD,getElem?_eq_getElem this]⟩
 ·rintro⟨j,hj,he⟩;have hj:=mem_range.1 hj;have:j<l.length:=by omega
  refine mem_take_iff_getElem.2 ⟨j,by omega, ?_⟩;simpa [getD_eq_getElem?_getD,getElem?_eq_getElem this]using he
theorem Fg{l:List Int}{k:Nat}(hk:k<l.length):jN (l.take k) (l.drop k)=((l.take k).contains (l.getD k 0) || jN (l.take (k+1)) (l.drop (k+1))):=by
 rw [mo hk,sW hk,jN];rfl
theorem GH{l:List Int}:jN (l.take l.length) (l.drop l.length)=false:=by rw [drop_length,jN]
theorem sI:∀l:List Int,su l=true↔∀j,j+1<l.length->l.getD j 0<l.getD (j+1) 0
 | []=>by simp [su]
 | [x]=>by simp [su]
 |x::y::r=>by
  rw [su,Bool.and_eq_true,sI (y::r)];constructor
  ·rintro⟨h1,h2⟩ j hj
   cases j with
   |zero=>simpa using h1
   |succ j=>simpa using h2 j ye
  ·intro h;exact⟨by simpa using h 0 zd,fun j hj=>by simpa using h (j+1) ye⟩
theorem Ni{l:List Int}{j:Nat}(h:j+1<l.length)(hle:l.getD (j+1) 0<=l.getD j 0):su l=false:=by
 rw [Bool.eq_false_iff];intro hc;have:=(sI l).1 hc j h;omega
def iH(env:List (ByteArray × Int))(pre:List Int)(g:Int × Ex × Ex):Int:=if pre.contains g.1=true then 10 else if dC env g.2.1 1≠0 then dC env g.2.1 1 else dC env g.2.2 4
theorem RH{env:List (ByteArray × Int)}{l:List (Int × Ex × Ex)}{k:Nat}(hk:k<l.length)(h:iH env ((l.take k).map Prod.fst) (l.getD k default)≠0):grG env ((l.take k).map Prod.fst) (l.drop k)=iH env ((l.take k).map Prod.fst) (l.getD k default):=by
 rw [mo hk,grG];unfold iH at h ⊢
 split
 ·rfl
 ·rename_i h1
  rw [if_neg h1]at h
  split
  ·rfl
  ·rename_i h2
   rw [if_neg h2]at h;rw [if_pos h]
theorem Py{env:List (ByteArray × Int)}{l:List (Int × Ex × Ex)}{k:Nat}(hk:k<l.length)(h:iH env ((l.take k).map Prod.fst) (l.getD k default)=0):grG env ((l.take k).map Prod.fst) (l.drop k)=grG env ((l.take (k+1)).map Prod.fst) (l.drop (k+1)):=by
 rw [mo hk,grG,sW hk,map_append];unfold iH at h
 split at h
 ·cases h
 ·rename_i h1
  rw [if_neg h1]
  split at h
  ·rename_i h2;exact absurd h h2
  ·rename_i h2
   rw [if_neg h2,if_neg zy];rfl
def iF(env:List (ByteArray × Int))(pre:List Int)(g:Int × Ex):Int:=if pre.contains g.1=true then 10 else dC env g.2 2
theorem Q6{env:List (ByteArray × Int)}{l:List (Int × Ex)}{k:Nat}(hk:k<l.length)(h:iF env ((l.take k).map Prod.fst) (l.getD k default)≠0):reG env ((l.take k).map Prod.fst) (l.drop k)=iF env ((l.take k).map Prod.fst) (l.getD k default):=by
 rw [mo hk,reG];unfold iF at h ⊢
 split
 ·rfl
 ·rename_i h1
  rw [if_neg h1]at h;rw [if_pos h]
theorem OO{env:List (ByteArray × Int)}{l:List (Int × Ex)}{k:Nat}(hk:k<l.length)(h:iF env ((l.take k).map Prod.fst) (l.getD k default)=0):reG env ((l.take k).map Prod.fst) (l.drop k)=reG env ((l.take (k+1)).map Prod.fst) (l.drop (k+1)):=by
 rw [mo hk,reG,sW hk,map_append];unfold iF at h
 split at h
 ·cases h
 ·rename_i h1
  rw [if_neg h1,if_neg zy];rfl
theorem Kv{V:dK}(h:(dn V.le).2≠0):bM V=(dn V.le).2:=by unfold bM;rw [if_pos h]
theorem Ku{V:dK}(h:(dn V.le).2=0)(h1:jN [] (V.cr.map Prod.fst)=true):bM V=10:=by unfold bM;rw [if_neg zy,if_pos h1]
theorem Kt{V:dK}(h:(dn V.le).2=0)(h1:jN [] (V.cr.map Prod.fst)=false)(h2:su (V.se.map Prod.fst)=false):bM V=1:=by unfold bM;rw [if_neg zy,if_neg (by simp [h1]),if_pos h2]
theorem Kr{V:dK}(h:(dn V.le).2=0)(h1:jN [] (V.cr.map Prod.fst)=false)(h2:su (V.se.map Prod.fst)=true)(h3:grG (dn V.le).1 [] V.gr≠0):bM V=grG (dn V.le).1 [] V.gr:=by
 unfold bM;rw [if_neg zy,if_neg (by simp [h1]),if_neg (by simp [h2]),if_pos h3]
theorem Kq{V:dK}(h:(dn V.le).2=0)(h1:jN [] (V.cr.map Prod.fst)=false)(h2:su (V.se.map Prod.fst)=true)(h3:grG (dn V.le).1 [] V.gr=0):bM V=reG (dn V.le).1 [] V.re:=by
 unfold bM;rw [if_neg zy,if_neg (by simp [h1]),if_neg (by simp [h2]),if_neg (by simpa using h3)]
open Go.RowKit
def fO(e:Ex):Bool:=decide ((e.args.length:Int)=aJ e.op)&&
 (if e.op=1 then aV e.num e.den e.dim&&e.name.toList.isEmpty
  else if e.op=2 then decide (e.num=0)&&decide (e.den=0)&&decide (e.dim=0)&&dI e.name
  else if e.op=3 then decide (e.dim=0)&&e.name.toList.isEmpty&&decide (e.den=1)&&decide (1<=e.num)&&decide (e.num<=45)
  else decide (e.num=0)&&decide (e.den=0)&&decide (e.dim=0)&&e.name.toList.isEmpty)
theorem CU(e:Ex):ay e=(fO e&&aC e.args):=by
 rw [dh];unfold fO;by_cases hl:(e.args.length:Int)=aJ e.op
 ·rw [decide_eq_true hl,Bool.true_and,Bool.true_and]
  have nil (h:e.op=1\/e.op=2\/e.op=3):aC e.args=true:=by
   have:e.args= []:=by
    have h0:aJ e.op=0:=by unfold aJ;rw [if_pos zb]
    exact eq_nil_of_length_eq_zero zb
   rw [this];rfl
  by_cases o1:e.op=1
  ·rw [if_pos o1,if_pos o1,nil (.inl o1),Bool.and_true]
  ·rw [if_neg o1,if_neg o1];by_cases o2:e.op=2
   ·rw [if_pos o2,if_pos o2,nil (.inr (.inl o2)),Bool.and_true]
   ·rw [if_neg o2,if_neg o2];by_cases o3:e.op=3
    ·rw [if_pos o3,if_pos o3,nil (.inr (.inr o3)),Bool.and_true]
    ·rw [if_neg o3,if_neg o3,Bool.and_comm]
 ·rw [decide_eq_false hl];rfl
theorem CR(l:List Ex):aC l=!(List.range l.length).any fun k=>!ay (l.getD k default):=by
 induction l with
 |nil=>rfl
 |cons e r ih=>
  rw [aC,ih,length_cons,range_succ_eq_map,any_cons,any_map];simp only [getD_cons_zero,Bool.not_or,Bool.not_not]
  congr 1
theorem IG(e:Ex)(a:Option Addr)(cap:Nat)(w:World)(hr:fE e)(hne:¬(e.args.length:Int)=aJ e.op):(Calls prog 134 #[exV e (.slice a e.args.length cap)] w fun r w'=>r= .returned (.bool (fO e))/\w.Grows w'):=by
 have HF:Hid (fO e=false):=yq (by unfold fO;rw [decide_eq_false hne,Bool.false_and]);obtain⟨on,od⟩:=hr.num;obtain⟨pn,pd⟩:=hr.den;have hsz:=hr.name;have hi:=yq (And.intro hr.num (And.intro hr.den hr.dim));clear hr;have h1:((e.args.length:Int)!=aJ e.op)=true:=by simpa using hne
 clear hne
 go_enter func134,ntmps134
 go_wp2_with fail
 go_quiet ((go_at_call 172;exact Calls.quiet_eq (jl _ _)))
 go_wp2_with fail
 go_returns
 exact⟨av HF.out.symm,.of_below af⟩
theorem Ee(e:Ex)(a:Option Addr)(cap:Nat)(w:World)(hr:fE e)(hle:(e.args.length:Int)=aJ e.op)(ho:e.op=2):(Calls prog 134 #[exV e (.slice a e.args.length cap)] w fun r w'=>r= .returned (.bool (fO e))/\w.Grows w'):=by
 have HF:Hid (fO e=(decide (e.num=0)&&decide (e.den=0)&&decide (e.dim=0)&&dI e.name)):=yq (by unfold fO;rw [decide_eq_true hle,Bool.true_and,if_neg zb,if_pos ho]);obtain⟨on,od⟩:=hr.num;obtain⟨pn,pd⟩:=hr.den;have hsz:=hr.name;have hi:=yq (And.intro hr.num (And.intro hr.den hr.dim));clear hr;have h1:((e.args.length:Int)!=aJ 2)=false:=by rw [ho]at hle;simpa using hle
 clear hle;have HM:=yq (show e.name.size<=maxLen by unfold maxLen;omega)
 go_enter func134,ntmps134
 go_wp2_with fail
 go_quiet ((go_at_call 172;exact Calls.quiet_eq (jl _ _)))
 go_wp2_with (go_at_call 173;refine gw (Cn _ _ HM.out) ?_)
 all_goals
  go_returns
  exact⟨av (by rw [HF.out];first|(simp [*];done)|(simp [*];rfl)),.of_below af⟩
theorem Ef(e:Ex)(a:Option Addr)(cap:Nat)(w:World)(hr:fE e)(hle:(e.args.length:Int)=aJ e.op)(ho:e.op=3):(Calls prog 134 #[exV e (.slice a e.args.length cap)] w fun r w'=>r= .returned (.bool (fO e))/\w.Grows w'):=by
 have HF:Hid (fO e=(decide (e.dim=0)&&e.name.toList.isEmpty&&decide (e.den=1)&&decide (1<=e.num)&&decide (e.num<=45))):=yq (by unfold fO;rw [decide_eq_true hle,Bool.true_and,if_neg zb,if_neg zb,if_pos ho]);obtain⟨on,od⟩:=hr.num;obtain⟨pn,pd⟩:=hr.den;have hsz:=hr.name;have hi:=yq (And.intro hr.num (And.intro hr.den hr.dim));clear hr;have h1:((e.args.length:Int)!=aJ 3)=false:=by rw [ho]at hle;simpa using hle
 clear hle
 go_enter func134,ntmps134
 go_wp2_with fail
 go_quiet ((go_at_call 172;exact Calls.quiet_eq (jl _ _)))
 go_wp2_with fail
 all_goals
  go_returns
  exact⟨av (by rw [HF.out];first|(simp [*];done)|(simp [*];rfl)|(simp [*];intros;omega)),.of_below af⟩
theorem Lt(e:Ex)(a:Option Addr)(cap:Nat)(w:World)(hr:fE e)(hle:(e.args.length:Int)=aJ e.op)(o1:¬e.op=1)(o2:¬e.op=2)(o3:¬e.op=3):(Calls prog 134 #[exV e (.slice a e.args.length cap)] w fun r w'=>r= .returned (.bool (fO e))/\w.Grows w'):=by
 have HF:Hid (fO e=(decide (e.num=0)&&decide (e.den=0)&&decide (e.dim=0)&&e.name.toList.isEmpty)):=yq (by unfold fO;rw [decide_eq_true hle,Bool.true_and,if_neg o1,if_neg o2,if_neg o3]);obtain⟨on,od⟩:=hr.num;obtain⟨pn,pd⟩:=hr.den;have hsz:=hr.name;have hi:=yq (And.intro hr.num (And.intro hr.den hr.dim));clear hr;have h1:((e.args.length:Int)!=aJ e.op)=false:=by simpa using hle
 have p1:(e.op==1)=false:=by simpa using o1
 have p2:(e.op==2)=false:=by simpa using o2
 have p3:(e.op==3)=false:=by simpa using o3
 clear hle o1 o2 o3
 go_enter func134,ntmps134
 go_wp2_with fail
 go_quiet ((go_at_call 172;exact Calls.quiet_eq (jl _ _)))
 go_wp2_with fail
 all_goals
  go_returns
  exact⟨av yk,.of_below af⟩
def Ha:Prop:=∀(e:Ex) (a:Option Addr) (cap:Nat) (w:World),fE e->Tab w->(e.args.length:Int)=aJ e.op->e.op=1->(Calls prog 134 #[exV e (.slice a e.args.length cap)] w fun r w'=>r= .returned (.bool (fO e))/\w.Grows w')
def OkX(e:Ex):Prop:=Ha\/lV e=true
theorem OkX.arg{e:Ex}(h:OkX e)(k:Nat)(hk:k<e.args.length):OkX (e.arg k):=h.imp id fun h=>IJ h k hk
theorem II(e:Ex)(a:Option Addr)(cap:Nat)(w:World)(hr:fE e)(ht:Tab w)(hx:OkX e):(Calls prog 134 #[exV e (.slice a e.args.length cap)] w fun r w'=>r= .returned (.bool (fO e))/\w.Grows w'):=by
 by_cases hle:(e.args.length:Int)=aJ e.op
 ·by_cases o1:e.op=1
  ·exact hx.elim (fun h=>h e a cap w hr ht hle o1) (fun h=>absurd o1 (Lv h))
  ·by_cases o2:e.op=2
   ·exact Ee e a cap w hr hle o2
   ·by_cases o3:e.op=3
    ·exact Ef e a cap w hr hle o3
    ·exact Lt e a cap w hr hle o1 o2 o3
 ·exact IG e a cap w hr hle
theorem Jt:∀args w,(callFunc 136 args).run prog w= .ok (.enter 136 args) w:=enters_of func136 ze rfl
theorem EU(S:Nat->Prop)(n:Nat):∀(e:Ex),e.size<=n->OkX e->∀(v:Value) (w:World),ax S w e v->Tab w->
 Calls prog 86 #[exV e v] w fun r w'=>r= .returned (.bool (ay e))/\w.Grows w':=by
 induction n with
 |zero=>intro e he;have:=e.size_pos;omega
 |succ n ih=>
  intro e he hx v w h ht;have HX:=yq hx;have HR:=yq h;have HT:=yq ht;have HN:Hid (_):=yq (fun a cap w (ht:Tab w)=>II e a cap w h.rng ht hx);have hany:=CR e.args;have hfn:=CU e;obtain⟨a,cap,rfl⟩:=h.form0
  have HC:Hid (∀w',w.Grows w'->Calls prog 135 #[.slice a e.args.length cap,.func (.func 136) #[] #[]] w' fun r w''=>r= .returned (.bool (!aC e.args))/\w'.Grows w''):=yq (fun w' hg=>by
   have:=nO S 136 #[] Jt e (.slice a e.args.length cap) (fun k=>!ay (e.arg k)) w' (HR.out.grows hg) (yq (fun k hk ak ck w1 hg1 hR1=>by
    have hsm:=e.size_arg k hk;have IH:=yq (fun w2 h1 h2=>ih (e.arg k) zb (HX.out.arg k hk) (.slice ak (e.arg k).args.length ck) w2 h1 h2);have hT1:=yq ((HT.out.grows hg).grows hg1);have HR1:=yq hR1;dsimp only;generalize ay (e.arg k)=q at *;clear hany hfn HN HR HT hR1 ih hg hg1 HX hx;generalize e.arg k=x at *;show Calls prog 136 #[exV x (.slice ak x.args.length ck)] w1 _
    go_enter func136,ntmps136
    go_wp2_with (go_at_call 86;refine gv (IH.out _ (HR1.out.alloc _) (hT1.out.alloc _)) ?_;intro bs d)
    go_returns
    exact⟨av rfl,.of_below af⟩))
   rw [show(List.range e.args.length).any (fun k=>!ay (e.arg k))=!aC e.args by rw [hany,Bool.not_not];rfl]at this
   exact this)
  clear hany ih h ht HX hx;generalize aC e.args=q at *;generalize fO e=p at *;have HF:=yq hfn;clear hfn;cases p
  ·go_enter func86,ntmps86
   go_wp2_with (go_at_call 134;refine gv (HN.out _ _ _ (HT.out.alloc _)) ?_;intro bs d)
   go_returns
   exact⟨av (by rw [HF.out];rfl),.of_below af⟩
  ·go_enter func86,ntmps86
   go_wp2_with (first|(go_at_call 134;refine gv (HN.out _ _ _ (HT.out.alloc _)) ?_;intro bs d)|(go_at_call 135;refine gv (HC.out _ (.of_below af)) ?_;intro bs2 d2))
   go_returns
   exact⟨av (by rw [HF.out];simp),.of_below af⟩
theorem qH(S:Nat->Prop)(e:Ex)(v:Value)(w:World)(h:ax S w e v)(ht:Tab w)(hx:OkX e):Calls prog 86 #[exV e v] w fun r w'=>r= .returned (.bool (ay e))/\w.Grows w':=EU S e.size e (Nat.le_refl _) hx v w h ht
theorem p8(S:Nat->Prop)(e:Ex)(v:Value)(w:World)(h:Hid (ax S w e v))(hbig:Hid (e.size<=2305843009213693952))(ht:Hid (Tab w))(hx:Hid (OkX e)):Calls prog 35 #[exV e v] w fun r w'=>r= .returned (.bool (bB e))/\w.Grows w':=by
 obtain⟨a,cap,hv⟩:=h.out.form0;subst hv;by_cases c1:(e.depth:Int)<=10
 ·by_cases c2:(e.size:Int)<=60
  ·go_enter func35,ntmps35
   go_wp2_with ((first|(go_at_call 84;refine gv (mO S e.size e (Nat.le_refl _) _ _ (h.out.alloc _) hbig) ?_;intro bs d)|(go_at_call 85;refine gv (oI S e.size e (Nat.le_refl _) _ _ ((h.out.alloc _).grow _ _) hbig) ?_;intro bs2 d2)|(go_at_call 86;refine gv (qH S e _ _ ((h.out.alloc _).grow _ _) ((ht.out.alloc _).grow _ _) hx.out) ?_;intro bs3 d3)))
   exact Tf
  ·go_enter func35,ntmps35
   go_wp2_with ((first|(go_at_call 84;refine gv (mO S e.size e (Nat.le_refl _) _ _ (h.out.alloc _) hbig) ?_;intro bs d)|(go_at_call 85;refine gv (oI S e.size e (Nat.le_refl _) _ _ ((h.out.alloc _).grow _ _) hbig) ?_;intro bs2 d2)|(go_at_call 86;refine gv (qH S e _ _ ((h.out.alloc _).grow _ _) ((ht.out.alloc _).grow _ _) hx.out) ?_;intro bs3 d3)))
   exact Tc
 ·go_enter func35,ntmps35
  go_wp2_with ((first|(go_at_call 84;refine gv (mO S e.size e (Nat.le_refl _) _ _ (h.out.alloc _) hbig) ?_;intro bs d)|(go_at_call 85;refine gv (oI S e.size e (Nat.le_refl _) _ _ ((h.out.alloc _).grow _ _) hbig) ?_;intro bs2 d2)|(go_at_call 86;refine gv (qH S e _ _ ((h.out.alloc _).grow _ _) ((ht.out.alloc _).grow _ _) hx.out) ?_;intro bs3 d3)))
  exact Te
end Go.Proofs.YtfoefpoaomepbaaGreatDoor
