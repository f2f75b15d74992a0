import Derived.Test.YtfoefpoaomepbaaGreatDoorGCodV
import Derived.Test.YtfoefpoaomepbaaGreatDoorGStpP
set_option linter.all false
set_option maxHeartbeats 16000000
set_option maxRecDepth 1000000
namespace Go.Proofs.YtfoefpoaomepbaaGreatDoor
open Go.Proofs.Tryz Tryz List
theorem CX{op n d m:Int}{s:ByteArray}{l:List Ex}(h:ay (.mk op n d m s l)=true)(ho:op=1\/op=2\/op=3):l= []:=by
 rw [dh,Bool.and_eq_true]at h;have h1:(l.length:Int)=aJ op:=of_decide_eq_true h.1;have h0:aJ op=0:=by unfold aJ;rw [if_pos zb]
 exact eq_nil_of_length_eq_zero zb
theorem EP{op n d m:Int}{s:ByteArray}{l:List Ex}(h:ay (.mk op n d m s l)=true)(h1:op≠1)(h2:op≠2)(h3:op≠3):aC l=true:=by
 rw [dh,Bool.and_eq_true]at h;have:=h.2;rw [if_neg (by exact h1),if_neg (by exact h2),if_neg (by exact h3),Bool.and_eq_true]at this;exact this.1
mutual
theorem jF{a:List (ByteArray × Int)}{s:ByteArray}:∀e:Ex,ay e=true->(az a e).2=0->aP s e=true->(fB a s).2=0
 | .mk op n d m nm l,hf,hi,hm=>by
   by_cases ho:op=1\/op=2\/op=3
   ·have hl:=CX hf ho;subst hl;rw [aP,bT,Bool.or_false,Bool.and_eq_true]at hm;have h2:op=2:=of_decide_eq_true hm.1;have hs:nm=s:=of_decide_eq_true hm.2;subst h2 hs;rw [az]at hi;exact hi
   ·have h1:op≠1:=fun h=>ho (.inl h);have h2:op≠2:=fun h=>ho (.inr (.inl h));have h3:op≠3:=fun h=>ho (.inr (.inr h));rw [aP,decide_eq_false h2,Bool.false_and,Bool.false_or]at hm;refine pI l (EP hf h1 h2 h3) ?_ hm;rw [az]at hi;unfold fo at hi;rw [if_neg h1,if_neg h3,if_neg h2]at hi;by_cases hr:(aW a l).2=0
    ·exact hr
    ·rw [if_pos hr]at hi;exact hi
theorem pI{a:List (ByteArray × Int)}{s:ByteArray}:∀l:List Ex,aC l=true->(aW a l).2=0->bT s l=true->(fB a s).2=0
 | [],_,_,hm=>by rw [bT]at hm;cases hm
 |e::r,hf,hi,hm=>by
  rw [aC,Bool.and_eq_true]at hf;rw [aW]at hi
  have h1:(az a e).2=0:=by
   by_cases h:(az a e).2=0
   ·exact h
   ·rw [if_pos h]at hi;exact hi
  have h2:(aW a r).2=0:=by
   rw [if_neg (by simpa using h1)]at hi;by_cases h:(aW a r).2=0
   ·exact h
   ·rw [if_pos h]at hi;exact hi
  rw [bT,Bool.or_eq_true]at hm;rcases hm with hm|hm
  ·exact jF e hf.1 h1 hm
  ·exact pI r hf.2 h2 hm
end
theorem uw{α:Type}(l:List (ByteArray × α))(p:ByteArray × α)(s:ByteArray):gF (l++[p]) s=if p.1=s then some p.2 else gF l s:=by
 unfold gF;rw [reverse_append,reverse_singleton,singleton_append,find?_cons];by_cases h:p.1=s
 ·rw [if_pos h,decide_eq_true h];rfl
 ·rw [if_neg h,decide_eq_false h]
structure iP(ls:List (ByteArray × Ex))(k:Nat)(env:List (ByteArray × Int)):Prop where
 len:env.length=k
 nm:∀i,i<k->(env.getD i default).1=(ls.getD i default).1
 ty:∀i,i<k->aQ (env.take i) (ls.getD i default).2=((env.getD i default).2,0)
 word:∀i,i<k->df (ls.getD i default).1.toList=0/\dI (ls.getD i default).1=true
 inj:∀i j,i<j->j<k->(ls.getD i default).1≠(ls.getD j default).1
theorem iP.zero(ls:List (ByteArray × Ex)):iP ls 0 []:=⟨rfl,fun i h=>by omega,fun i h=>by omega,fun i h=>by omega,fun i j _ h=>by omega⟩
theorem qG{α:Type}[Inhabited α]{l:List α}{x:α}{i:Nat}:(l++[x]).getD i default=if i<l.length then l.getD i default else if i=l.length then x else default:=by
 simp only [getD_eq_getElem?_getD];by_cases h:i<l.length
 ·rw [if_pos h,getElem?_append_left h]
 ·rw [if_neg h,getElem?_append_right zb];by_cases h2:i=l.length
  ·subst h2;simp
  ·rw [if_neg h2,getElem?_eq_none zg];rfl
theorem iP.next{ls:List (ByteArray × Ex)}{k:Nat}{env:List (ByteArray × Int)}(h:iP ls k env)(ha:jQ ls k env)(hk:k<ls.length)(hb:fA env (ls.getD k default)=0) :
 iP ls (k+1) (env++[((ls.getD k default).1,(aQ env (ls.getD k default).2).1)]):=by
 have hl:=h.len;unfold fA at hb
 split at hb
 ·cases hb
 rename_i h1
 split at hb
 ·cases hb
 rename_i h2
 have hdup:=ha.dup zb (ls.getD k default).1
 have hd:∀j,j<k->(ls.getD j default).1≠(ls.getD k default).1:=fun j hj he=>by
  rw [hdup]at h2;exact h2 (any_eq_true.2 ⟨j,mem_range.2 hj,decide_eq_true he⟩)
 refine⟨by rw [length_append,hl];rfl,fun i hi=>?_,fun i hi=>?_,fun i hi=>?_,fun i j hij hj=>?_⟩
 ·rw [qG];by_cases hik:i<k
  ·rw [if_pos zb];exact h.nm i hik
  ·rw [if_neg zb,if_pos zb];show(ls.getD k default).1=_;rw [show i=k by omega]
 ·by_cases hik:i<k
  ·rw [take_append_of_le_length zb,qG,if_pos zb];exact h.ty i hik
  ·obtain rfl:i=k:=by omega
   rw [take_append_of_le_length zb,take_of_length_le zb,qG,if_neg zb,if_pos hl.symm];exact Prod.ext rfl hb
 ·by_cases hik:i<k
  ·exact h.word i hik
  ·obtain rfl:i=k:=by omega
   exact⟨Decidable.byContradiction fun c=>h1 (.inl c),by
    cases hn:dI (ls.getD i default).1
    ·exact absurd (.inr hn) h1
    ·rfl⟩
 ·by_cases hjk:j<k
  ·exact h.inj i j hij hjk
  ·obtain rfl:j=k:=by omega
   exact hd i hij
theorem iP.of_lets{ls:List (ByteArray × Ex)}{env:List (ByteArray × Int)}(h:gD ls []=(env,0)):iP ls ls.length env:=by
 have key:∀k,k<=ls.length->∃e,jQ ls k e/\iP ls k e:=by
  intro k
  induction k with
  |zero=>intro _;exact⟨[],jQ.zero ls,iP.zero ls⟩
  |succ k ih=>
   intro hk;obtain⟨e,h1,h2⟩:=ih zb
   have hz:fA e (ls.getD k default)=0:=Decidable.byContradiction fun c=>by
    have hb:=h1.bad zb c;rw [h]at hb;exact c (Prod.mk.inj hb).2.symm
   exact⟨_,h1.next zb hz,h2.next h1 zb hz⟩
 obtain⟨e,h1,h2⟩:=key ls.length (Nat.le_refl _);have hd:=h1.done;rw [h]at hd;rw [(Prod.mk.inj hd).1];exact h2
theorem iP.last{ls:List (ByteArray × Ex)}{k:Nat}{env:List (ByteArray × Int)}(h:iP ls k env){j:Nat}:∀i,j<i->i<=k->gF (env.take i) (ls.getD j default).1=some (env.getD j default).2
 |0,hj,_=>by omega
 |i+1,hj,hi=>by
  have hl:=h.len;rw [take_succ_eq_append_getElem zb,uw];have hg:env[i]' zb=env.getD i default:=by rw [getD_eq_getElem?_getD,getElem?_eq_getElem zb];rfl
  rw [hg,h.nm i zb];by_cases hji:j=i
  ·subst hji;rw [if_pos rfl]
  ·rw [if_neg (fun e=>h.inj j i zb zb e.symm)];exact h.last i zb zb
theorem iP.none{ls:List (ByteArray × Ex)}{k:Nat}{env:List (ByteArray × Int)}(h:iP ls k env){s:ByteArray}:∀i,i<=k->(∀j,j<i->(ls.getD j default).1≠s)->gF (env.take i) s=none
 |0,_,_=>by simp [gF]
 |i+1,hi,hs=>by
  have hl:=h.len;rw [take_succ_eq_append_getElem zb,uw];have hg:env[i]' zb=env.getD i default:=by rw [getD_eq_getElem?_getD,getElem?_eq_getElem zb];rfl
  rw [hg,h.nm i zb,if_neg (hs i zb)];exact h.none i zb fun j hj=>hs j zb
theorem iP.named{ls:List (ByteArray × Ex)}{k:Nat}{env:List (ByteArray × Int)}(h:iP ls k env){s:ByteArray}{i:Nat}(hi:i<=k)(ht:(fB (env.take i) s).2=0):df s.toList≠0\/∃j,j<i/\(ls.getD j default).1=s:=by
 by_cases hs:df s.toList=0
 ·refine .inr (Decidable.byContradiction fun c=>?_);have:=h.none (s:=s) i hi fun j hj e=>c ⟨j,hj,e⟩;unfold fB at ht;rw [if_neg (by simpa using hs),this]at ht;cases ht
 ·exact .inl hs
def RQ(l:List (List Int))(i:Nat):Int:=1+((l.getD i []).length:Int) % 4
def RP(l:List (List Int))(i:Nat):List (ByteArray × Int):=(List.range i).map fun j=>(fV j,RQ l j)
def LC(i:Nat):List ByteArray:=(List.range i).map fV
def P7(l:List (List Int))(i:Nat):Dfn:={κ:=slK (LC i),e:=jW (l.getD i []) (RP l i) (RQ l i),k:=i,m:=RQ l i,env:=RP l i}
theorem Bz{κ:ByteArray->Nat}:∀(xs:List Ex),(∀a∈xs,∀i,(codeF κ a i).length<=3*a.size)->∀i,(fw (bP κ xs) i).length<=3*Ex.sizes xs
 | [],_,_=>Nat.zero_le _
 |a::r,h,i=>by
  simp only [bP,fw,length_append,Ex.sizes];have h1:=h a zd i;have h2:=Bz r (fun b hb=>h b (mem_cons_of_mem _ hb)) (i+(codeF κ a i).length);omega
theorem A8{A B C:Nat->List Ins}{a b c:Nat}(hA:∀i,(A i).length<=a)(hB:∀i,(B i).length<=b)(hC:∀i,(C i).length<=c)(i:Nat):(brC A B C i).length<=a+b+c+2:=by
 unfold brC;simp only [length_append,length_cons];have h1:=hA i;have h2:=hB (i+(A i).length+1);have h3:=hC (i+(A i).length+1+(B (i+(A i).length+1)).length+1);omega
theorem vw{κ:ByteArray->Nat}(xs:List Ex)(h:∀a∈xs,∀i,(codeF κ a i).length<=3*a.size)(k i:Nat):((bP κ xs).getD k (fun _=>[]) i).length<=3*((xs.getD k default).size):=by
 induction xs generalizing k with
 |nil=>simp [bP]
 |cons a r ih=>
  cases k with
  |zero=>exact h a zd i
  |succ k=>exact ih (fun b hb=>h b (mem_cons_of_mem _ hb)) k
theorem Bv(xs:List Ex)(h:xs.length=3):(xs.getD 0 default).size+(xs.getD 1 default).size+(xs.getD 2 default).size=Ex.sizes xs:=by
 match xs,h with
 | [a,b,c],_=>simp [Ex.sizes];omega
theorem wJ(xs:List Ex)(h:xs.length=2):(xs.getD 0 default).size+(xs.getD 1 default).size=Ex.sizes xs:=by
 match xs,h with
 | [a,b],_=>simp [Ex.sizes]
mutual
theorem Dq{κ:ByteArray->Nat}:∀e:Ex,ay e=true->∀i,(codeF κ e i).length<=3*e.size
 | .mk op n d m s xs,hf,i=>by
   rw [ay,Bool.and_eq_true,decide_eq_true_eq]at hf;obtain⟨hlen,hf⟩:=hf;rw [codeF,Ex.size];unfold iE;by_cases h1:op=1
   ·rw [if_pos h1];simp;omega
   by_cases h2:op=2
   ·rw [if_neg h1,if_pos h2];simp;omega
   by_cases h3:op=3
   ·rw [if_neg h1,if_neg h2,if_pos h3];simp;omega
   rw [if_neg h1,if_neg h2,if_neg h3]at hf ⊢;have hx:=xO (κ:=κ) xs (Bool.and_eq_true_iff.1 hf).1;have a0:=fun i=>vw xs hx 0 i;have a1:=fun i=>vw xs hx 1 i;have a2:=fun i=>vw xs hx 2 i;by_cases h17:op=17
   ·rw [if_pos h17];have hs:=wJ xs (by rw [h17]at hlen;simp [aJ]at hlen;omega);have:=A8 a0 a1 (C:=fun _=>[⟨24,0,0,0⟩]) (c:=1) (fun _=>Nat.le_refl 1) i;omega
   by_cases h18:op=18
   ·rw [if_neg h17,if_pos h18];have hs:=wJ xs (by rw [h18]at hlen;simp [aJ]at hlen;omega);have:=A8 a0 (B:=fun _=>[⟨23,0,0,0⟩]) (b:=1) (fun _=>Nat.le_refl 1) a1 i;omega
   by_cases h21:op=21
   ·rw [if_neg h17,if_neg h18,if_pos h21];have hs:=Bv xs (by rw [h21]at hlen;simp [aJ]at hlen;omega);have:=A8 a0 a1 a2 i;omega
   rw [if_neg h17,if_neg h18,if_neg h21,length_append,length_singleton];have:=Bz xs hx i;omega
theorem xO{κ:ByteArray->Nat}:∀xs:List Ex,aC xs=true->∀a∈xs,∀i,(codeF κ a i).length<=3*a.size
 | [],_,_,ha,_=>by cases ha
 |e::r,hf,a,ha,i=>by
  rw [aC,Bool.and_eq_true]at hf;rcases mem_cons.1 ha with h|ha
  ·rw [h];exact Dq e hf.1 i
  ·exact xO r hf.2 a ha i
end
theorem qN:∀(ds:List Dfn) (i:Nat),(∀d∈ds,∀i,(codeF d.κ d.e i).length<=180)->(aj ds i).length<=181*ds.length
 | [],_,_=>Nat.zero_le _
 |d::r,i,h=>by
  rw [aj,length_append,length_cons];have h1:=h d zd i;have h2:=qN r (i+(d.code i).length) (fun b hb=>h b (mem_cons_of_mem _ hb));have hcl:(d.code i).length=(codeF d.κ d.e i).length+1:=by unfold Dfn.code;rw [length_append];rfl
  omega
def UT(l:List (List Int))(g:List Int):List Ins:=
 if g= []\/l= []then aj ((range' 0 (min l.length 5)).map (P7 l)) 0
 else aj ((range' 0 (min l.length 5-1)).map (P7 l)) 0++dB (codeF (slK (LC (min l.length 5-1))) (jW g (RP l (min l.length 5-1)) 1)) [P7 l (min l.length 5-1)] (aj ((range' 0 (min l.length 5-1)).map (P7 l)) 0).length
def lastB(n k:Nat):Bool:=decide (k+1=n) || decide (k=4)
theorem oC(a:List Dfn)(d:Dfn)(i:Nat):aj (a++[d]) i=aj a i++d.code (i+(aj a i).length):=by
 induction a generalizing i with
 |nil=>simp [aj]
 |cons x r ih=>
  rw [cons_append,aj,aj,ih,append_assoc,length_append,Nat.add_assoc]
theorem wF{e:Ex}{ls:List (ByteArray × Ex)}{j:Nat}(hj:j<ls.length):j∈usesL e ls↔ja e ls j (bz e ls (ls.length-j-1))=true:=by
 have h1:=jT (e:=e) (ls:=ls) (i:=j) (ls.length-j-1+1) j zb zb hj;rw [show ls.length-j-1+1+j=ls.length by omega]at h1;have h2:=iW (e:=e) (ls:=ls) (ls.length-j-1) zb;rw [show ls.length-(ls.length-j-1+1)=j by omega]at h2;unfold usesL;rw [h1,<-h2,contains_iff_mem]
theorem jA{e:Ex}{ls:List (ByteArray × Ex)}{j:Nat}(hj:j<ls.length)(h:aP (ls.getD j default).1 e=true):j∈usesL e ls:=by
 rw [wF hj];unfold ja;rw [h];rfl
theorem jB{e:Ex}{ls:List (ByteArray × Ex)}{i j:Nat}(hi:i∈usesL e ls)(hji:j<i)(h:aP (ls.getD j default).1 (ls.getD i default).2=true):j∈usesL e ls:=by
 have hil:i<ls.length:=(eX ls.length (Nat.le_refl _) i hi).2;rw [wF zb];unfold ja;rw [Bool.or_eq_true];refine .inr (any_eq_true.2 ⟨i, ?_,h⟩);have h1:=jT (e:=e) (ls:=ls) (i:=i) (ls.length-j-1) (j+1) zb zb hil;rw [show ls.length-j-1+(j+1)=ls.length by omega]at h1;exact h1.1 hi
theorem uses_lt{e:Ex}{ls:List (ByteArray × Ex)}{i:Nat}(hi:i∈usesL e ls):i<ls.length:=(eX ls.length (Nat.le_refl _) i hi).2
section
variable {v : Vw} {ls : List (ByteArray × Ex)} {env : List (ByteArray × Int)} {e : Ex} {D0 D : List Nat} {st0 st : List (ByteArray × Val)} {k : Nat}
end
def ifN:ByteArray:=⟨#[105,102]⟩
def payN:ByteArray:=⟨#[112,97,121]⟩
def byN:ByteArray:=⟨#[98,121]⟩
theorem uz:dI ifN=false/\dI payN=false/\dI byN=false:=by decide+kernel
theorem Jk{env:List (ByteArray × Int)}{e:Ex}{m:Int}(h:aQ env e=(m,0)):bB e=true/\ay e=true/\az env e=(m,0):=by
 unfold aQ at h
 split at h
 ·rename_i hv
  have hvb:=hv.1;refine⟨hvb, ?_,h⟩;unfold bB at hvb;rw [Bool.and_eq_true]at hvb;exact hvb.2
 ·have:=(Prod.mk.inj h).2;cases this
theorem Al{env:List (ByteArray × Int)}{e:Ex}{want:Int}(h:dC env e want=0):aQ env e=(want,0):=by
 unfold dC at h
 split at h
 ·cases h
 ·rename_i h1
  refine Prod.ext (Decidable.byContradiction fun c=>h1 ⟨h,c⟩) h
theorem Cy{env:List (ByteArray × Int)}:∀(l:List (Int × Ex × Ex)) (pre:List Int),grG env pre l=0->∀g∈l,aQ env g.2.1=(1,0)/\aQ env g.2.2=(4,0)
 | [],_,_,_,h=>by cases h
 |g::r,pre,h,x,hx=>by
  rw [grG]at h
  split at h
  ·cases h
  split at h
  ·rename_i h1;exact absurd h h1
  rename_i h1
  split at h
  ·rename_i h2;exact absurd h h2
  rename_i h2
  rcases mem_cons.1 hx with rfl|hx
  ·exact⟨Al (Decidable.byContradiction h1),Al (Decidable.byContradiction h2)⟩
  ·exact Cy r _ h x hx
theorem BF{env:List (ByteArray × Int)}:∀(l:List (Int × Ex)) (pre:List Int),reG env pre l=0->∀g∈l,aQ env g.2=(2,0)
 | [],_,_,_,h=>by cases h
 |g::r,pre,h,x,hx=>by
  rw [reG]at h
  split at h
  ·cases h
  split at h
  ·rename_i h1;exact absurd h h1
  rename_i h1
  rcases mem_cons.1 hx with rfl|hx
  ·exact Al (Decidable.byContradiction h1)
  ·exact BF r _ h x hx
structure G9(V:dK)(env:List (ByteArray × Int)):Prop where
 ls:iP V.le V.le.length env
 gr:∀g∈V.gr,aQ env g.2.1=(1,0)/\aQ env g.2.2=(4,0)
 re:∀g∈V.re,aQ env g.2=(2,0)
theorem G9.of{V:dK}(h:bM V=0):G9 V (dn V.le).1:=by
 unfold bM at h
 split at h
 ·rename_i h1;exact absurd h h1
 rename_i h1
 split at h
 ·cases h
 split at h
 ·cases h
 split at h
 ·rename_i h2;exact absurd h h2
 rename_i h2
 have h0:(dn V.le).2=0:=Decidable.byContradiction h1;have hg:grG (dn V.le).1 [] V.gr=0:=Decidable.byContradiction h2;refine⟨?_,Cy _ _ hg,BF _ _ h⟩
 have hl:V.le.length<=10:=by
  unfold dn at h0
  split at h0
  ·cases h0
  ·omega
 rw [qy hl]at h0 ⊢;exact iP.of_lets (Prod.ext rfl h0)
open Go.RowKit
def slV(sl:List ByteArray):List Value:=sl.map Value.string
theorem l6{w w':World}{base size n:Nat}{e:TypeId}{v:Value}{xs:List Value}{row:Option Nat}(h:w.ownsRow base e size v n xs)(hg:w.grownBy w' row)(hne:∀b,row=some b->v.ownBlock≠some b):w'.ownsRow base e size v n xs:=
 h.kept hg (by
  cases e1:v.ownBlock with
  |none=>exact .inl rfl
  |some b=>exact .inr fun e2=>hne b e2.symm e1)
theorem Px{w w':World}(hg:w.Grows w')(row:Option Nat):w.grownBy w' row:=⟨hg.below.os,hg.below.tape,hg.below.output,hg.below.size,fun k hk _=>hg.below.block k hk⟩
theorem kE(w:World)(g j:Nat)(u:Value):w.grownBy (w.setCell ⟨g,j,none⟩ u) (some g):=by
 have hB:=Below.setCell (p:=(⟨g,j,none⟩:Addr)) (Below.refl g w) (Nat.le_refl g) u;exact⟨hB.os,hB.tape,hB.output,hB.size,fun k _ hn=>Below.heap_setCell _ _ _ _ (fun e=>hn (by rw [e]))⟩
section
variable {w W W' W1 : World} {base g : Nat} {cI cS vI vS vE v1 : Value} {l l1 : List Ins} {sl sl1 : List ByteArray} {env env1 : List (ByteArray × Int)}
theorem rowForm3{B size n:Nat}{T:TypeId}{v:Value}{xs:List Value}(h:W.ownsRow B T size v n xs):∃a c,v= .slice a n c/\n<=c/\(n=0\/∃b,a=some ⟨b,0,none⟩/\v.ownBlock=some b/\B<=b/\b<W.heap.size):=by
 obtain⟨-,⟨rfl,h0⟩|⟨g,cap,cur,rfl,hb,hg,hnc,-⟩⟩:=h
 ·exact⟨none,0,by rw [h0],by omega,.inl h0⟩
 ·exact⟨_,_,rfl,hnc,.inr ⟨g,rfl,rfl,hb,(Array.getElem?_eq_some_iff.1 hg).1⟩⟩
theorem slV_get(sl:List ByteArray)(i:Nat)(h:i<sl.length):(slV sl)[i]? =some (.string (sl.getD i ByteArray.empty)):=by
 unfold slV;rw [getElem?_map,getElem?_eq_getElem h,getD_eq_getElem?_getD,getElem?_eq_getElem h];rfl
end
structure bR(g:Nat)(w w':World)(v v':Value):Prop where
 os:w'.os=w.os
 tape:w'.tape=w.tape
 output:w'.output=w.output
 size:w.heap.size<=w'.heap.size
 block:∀k,k<w.heap.size->some k≠v.ownBlock->k≠g->w'.heap[k]? =w.heap[k]?
 at_:v'.ownBlock=v.ownBlock\/∃b,v'.ownBlock=some b/\w.heap.size<=b
structure bL(S:Nat->Prop)(N base g:Nat)(w:World)(v vs:Value)(l:List Ins)(sl:List ByteArray):Prop where
 pre:Bj S N base w v vs l sl
 blk:∃ty,w.heap[g]? =some (.cells #[v,vs] ty (0,0))
 gb:g<base
 gS:∀b,S b->b≠g
section
variable {S : Nat -> Prop} {N base g : Nat} {w w1 w2 w' W : World} {v v1 v2 v' vs ve : Value} {l l1 l' : List Ins} {sl : List ByteArray} {e : Ex}
theorem bR.of(hg:w.Grows w'):bR g w w' v v:=⟨hg.below.os,hg.below.tape,hg.below.output,hg.below.size,fun k hk _ _=>hg.below.block k hk,.inl rfl⟩
theorem bR.ext(h:Ext w w' v v'):bR g w w' v v':=⟨h.g.os,h.g.tape,h.g.output,h.g.size,fun k hk hn _=>h.g.block k hk hn,h.at_⟩
theorem bR.trans(h:bR g w w1 v v1)(h2:bR g w1 w2 v1 v2):bR g w w2 v v2:=by
 refine⟨h2.os.trans h.os,h2.tape.trans h.tape,h2.output.trans h.output,Nat.le_trans h.size h2.size,fun k hk hn hgk=>?_, ?_⟩
 ·refine(h2.block k (Nat.lt_of_lt_of_le hk h.size) (fun e=>?_) hgk).trans (h.block k hk hn hgk);rcases h.at_ with e1|⟨b,e1,hb⟩
  ·exact hn (e.trans e1)
  ·rw [e1]at e;cases e;omega
 ·rcases h2.at_ with e2|⟨b,e2,hb⟩
  ·exact SK
  ·exact .inr ⟨b,e2,Nat.le_trans h.size hb⟩
theorem bR.grows(hg:w.Grows w1)(h:bR g w1 w2 v v'):bR g w w2 v v':=(bR.of hg).trans h
theorem bR.set(h:bR g w w1 v v')(j:Nat)(u:Value):bR g w (w1.setCell ⟨g,j,none⟩ u) v v':=by
 have k:=kE w1 g j u;exact⟨k.os.trans h.os,k.tape.trans h.tape,k.output.trans h.output,Nat.le_trans h.size k.size,fun b hb hn hgb=>(k.block b (Nat.lt_of_lt_of_le hb h.size) (fun e=>hgb (Option.some.inj e))).trans (h.block b hb hn hgb),h.at_⟩
theorem bL.step(h:bL S N base g w v vs l sl)(hx:bR g w w' v v')(hr:kW base w' v' l')(hb:∃ty,w'.heap[g]? =some (.cells #[v',vs] ty (0,0))):bL S N base g w' v' vs l' sl:=by
 refine⟨⟨hr,h.pre.lt,Nat.le_trans h.pre.sz hx.size,fun b hb e=>?_,Nat.le_trans h.pre.bs hx.size, ?_⟩,hb,h.gb,h.gS⟩
 ·rcases hx.at_ with e1|⟨b',e1,hb'⟩
  ·exact h.pre.ap b hb (e.trans e1)
  ·rw [e1]at e;cases e;have:=h.pre.lt _ hb;have:=h.pre.sz;omega
 ·obtain⟨h1,h2,a,cap,h3,h4,h5⟩:=h.pre.sl;refine⟨h1,h2,a,cap,h3,h4,h5.imp id ?_⟩;rintro⟨b,off,ha,hS,hb,hc⟩;exact⟨b,off,ha,hS,Nat.lt_of_lt_of_le hb hx.size,fun i hi=>(World.cell?_of_block (a:=⟨b,off+i,none⟩) (hx.block b hb (h.pre.ap b hS) (h.gS b hS))).trans (hc i hi)⟩
theorem bL.grows(h:bL S N base g w v vs l sl)(hg:w.Grows w'):bL S N base g w' v vs l sl:=by
 obtain⟨ty,hb⟩:=h.blk;exact h.step (bR.of hg) (h.pre.row.grows hg) ⟨ty,(hg.below.block g (Array.getElem?_eq_some_iff.1 hb).1).trans hb⟩
theorem bL.ex(h:bL S N base g w v vs l sl)(hx:bR g w w' v v')(hr:ax S w e ve):ax S w' e ve:=
 hr.keep hx.size fun b o hS hb=>World.cell?_of_block (a:=⟨b,o,none⟩) (hx.block b hb (h.pre.ap b hS) (h.gS b hS))
theorem bL.far(hx:bR g w w' v v'){b:Nat}(hb:b<w.heap.size)(hn:some b≠v.ownBlock)(hg:b≠g):w'.heap[b]? =w.heap[b]?/\some b≠v'.ownBlock:=by
 refine⟨hx.block b hb hn hg,fun e=>?_⟩;rcases hx.at_ with e1|⟨b',e1,hb'⟩
 ·exact hn (e.trans e1)
 ·rw [e1]at e;cases e;omega
theorem bL.new(h:bL S N base g w v vs l sl):some w.heap.size≠v.ownBlock:=h.pre.new
theorem bL.glt(h:bL S N base g w v vs l sl):g<w.heap.size:=by obtain⟨ty,hb⟩:=h.blk;exact(Array.getElem?_eq_some_iff.1 hb).1
theorem bL.c0(h:bL S N base g w v vs l sl):w.cell? ⟨g,0,none⟩=some v:=by obtain⟨ty,hb⟩:=h.blk;exact cell_of_row w g 0 _ _ _ hb
theorem bL.c1(h:bL S N base g w v vs l sl):w.cell? ⟨g,1,none⟩=some vs:=by obtain⟨ty,hb⟩:=h.blk;exact cell_of_row w g 1 _ _ _ hb
theorem bL.f(h:bL S N base g w v vs l sl)(j:Nat):w.frozen? ⟨g,j,none⟩=false:=by obtain⟨ty,hb⟩:=h.blk;exact Go.Joins.unfrozen_of_block hb j
theorem bL.put(h:bL S N base g w v vs l sl)(hx:Ext w w1 v v1)(hr:kW base w1 v1 l1):bL S N base g (w1.setCell ⟨g,0,none⟩ v1) v1 vs l1 sl/\bR g w (w1.setCell ⟨g,0,none⟩ v1) v v1:=by
 have hx1:=(bR.ext (g:=g) hx).set 0 v1;obtain⟨ty,hb⟩:=h.blk;have hgv:some g≠v.ownBlock:=fun e=>by have:=(h.pre.row.lt g e.symm).1;have:=h.gb;omega
 have hb1:=(hx.g.block g (Array.getElem?_eq_some_iff.1 hb).1 hgv).trans hb;refine⟨h.step hx1 ?_ ⟨ty,Go.Joins.block_setCell hb1 v1⟩,hx1⟩;exact l6 hr (kE w1 g 0 v1) (by rintro b ⟨⟩ e;have:=(hr.lt _ e).1;have:=h.gb;omega)
theorem bL.ins(h:bL S N base g w v vs l sl)(x:Ins){gg n c H:Nat}(hn:n=l.length+1)(hg:w.Grows W)(hgr:W.grownBy w1 v.ownBlock)(ha:v.ownBlock=some gg\/gg=H)(hH:w.heap.size<=H)
 (ho:w1.ownsRow base 119 4 (.slice (some ⟨gg,0,none⟩) n c) n (gG l++[.int .i64 x.op,.int .i64 x.a,.int .i64 x.n,.int .i64 x.d])) :
 bL S N base g (w1.setCell ⟨g,0,none⟩ (.slice (some ⟨gg,0,none⟩) n c)) (.slice (some ⟨gg,0,none⟩) n c) vs (l++[x]) sl/\bR g w (w1.setCell ⟨g,0,none⟩ (.slice (some ⟨gg,0,none⟩) n c)) v (.slice (some ⟨gg,0,none⟩) n c):=by
 subst hn;refine h.put (Ext.app hg hgr ha hH) ?_;rw [<-qB]at ho;unfold kW;rw [length_append];exact ho
theorem bL.cell{gg c:Nat}(h:bL S N base g w (.slice (some ⟨gg,0,none⟩) l.length c) vs l sl)(i:Nat)(hi:i<l.length*4):(∃u,w.cell? ⟨gg,i,none⟩=some u)/\w.frozen? ⟨gg,i,none⟩=false:=by
 have hr:=h.pre.row;unfold kW at hr;refine⟨?_,hr.frozenAt _⟩;have:=hr.cellAt i zb;rw [this,getElem?_eq_getElem (by rw [uA];omega)];exact⟨_,rfl⟩
theorem bL.store{gg c:Nat}(h:bL S N base g w (.slice (some ⟨gg,0,none⟩) l.length c) vs l sl)(i:Nat)(z:Int)(l':List Ins)(hl:l'.length=l.length)(hs:(gG l).set i (.int .i64 z)=gG l') :
 bL S N base g (w.setCell ⟨gg,i,none⟩ (.int .i64 z)) (.slice (some ⟨gg,0,none⟩) l.length c) vs l' sl/\bR g w (w.setCell ⟨gg,i,none⟩ (.int .i64 z)) (.slice (some ⟨gg,0,none⟩) l.length c) (.slice (some ⟨gg,0,none⟩) l.length c):=by
 have hr:=h.pre.row;unfold kW at hr;obtain⟨h1,h2⟩:=hr.stored i (.int .i64 z);have hx:bR g w (w.setCell ⟨gg,i,none⟩ (.int .i64 z)) (.slice (some ⟨gg,0,none⟩) l.length c) (.slice (some ⟨gg,0,none⟩) l.length c):=bR.ext ⟨h2,.inl rfl⟩;obtain⟨ty,hb⟩:=h.blk;have hgv:some g≠(Value.slice (some ⟨gg,0,none⟩) l.length c).ownBlock:=fun e=>by have:=(h.pre.row.lt g e.symm).1;have:=h.gb;omega
 refine⟨h.step hx ?_ ⟨ty,(h2.block g (Array.getElem?_eq_some_iff.1 hb).1 hgv).trans hb⟩,hx⟩;unfold kW;rw [hl,<-hs];exact h1
theorem bL.ready(h:bL S N base g w v vs l sl)(hg:w.Grows W)(hgr:W.grownBy w1 v.ownBlock):w1.frozen? ⟨g,0,none⟩=false/\w1.cell? ⟨g,0,none⟩=some v/\g<w1.heap.size:=by
 obtain⟨ty,hb⟩:=h.blk;have hgv:some g≠v.ownBlock:=fun e=>by have:=(h.pre.row.lt g e.symm).1;have:=h.gb;omega
 have hb1:=((jG hg hgr).block g (Array.getElem?_eq_some_iff.1 hb).1 hgv).trans hb;exact⟨Go.Joins.unfrozen_of_block hb1 0,cell_of_row w1 g 0 _ _ _ hb1,(Array.getElem?_eq_some_iff.1 hb1).1⟩
end
def mM(r:Value)(S:Nat->Prop)(N base g:Nat)(w:World)(v vs:Value)(l':List Ins)(sl:List ByteArray)(e:Ending)(w':World):Prop:=∃a c,e= .returned r/\bL S N base g w' (.slice a l'.length c) vs l' sl/\bR g w w' v (.slice a l'.length c)
theorem jk{S:Nat->Prop}{N base g:Nat}{w:World}{v vs:Value}{l:List Ins}{sl:List ByteArray}(op a:Int)(h:bL S N base g w v vs l sl)(hl:l.length<=1000000) :
 Calls prog 70 #[.pointer (some ⟨g,0,none⟩),.int .i64 op,.int .i64 a] w (mM (.int .i64 (l.length:Nat)) S N base g w v vs (l++[⟨op,a,0,0⟩]) sl):=by
 obtain⟨i0,hi,hz1,hz2,hz3⟩:=info_parts Rk;obtain⟨a1,c1,rfl⟩:=h.pre.row.form;have HP:=yq h;have HL:=yq hl;have x0:=h.c0;have hgs:=h.glt;clear h
 go_enter func70,ntmps70
 go_wp2_with (at_builtin;refine wpList_append_lies _ rfl _ _ 55 rfl base 119 i0 _ 4 32 underlying55 hi hz1 hz2 hz3 rfl zf (.slice a1 l.length c1) l.length (gG l) rfl (HP.out.pre.row.grows growsR) ⟨_,0,none⟩ 1 1 [.int .i64 op,.int .i64 a,.int .i64 0,.int .i64 0] rfl rfl (news_cells _ [.int .i64 op,.int .i64 a,.int .i64 0,.int .i64 0] _ _ zd) (by intro u hu;simp at hu;rcases hu with rfl|rfl|rfl|rfl<;>rfl) zf (by unfold maxLen;have:=HL.out;omega) (by have:=HL.out;omega) (by have:=HP.out.pre.bs;simp;omega) _ rfl ?_)
 intro gg cap w1 hown hgrow hgg hgl;obtain⟨k1,k2,k3⟩:=HP.out.ready growsR hgrow;have HE:=yq (HP.out.ins ⟨op,a,0,0⟩ (n:=l.length+1) rfl growsR hgrow hgg (by first|omega|(simp<;>omega)) hown);clear hown hgrow hgg hgl
 go_wp2_with fail
 go_returns
 refine⟨some ⟨gg,0,none⟩,cap,rfl, ?_⟩;rw [length_append];exact HE.out
theorem wN{S:Nat->Prop}{N base g:Nat}{w:World}{v vs:Value}{l:List Ins}{sl:List ByteArray}(q c at_:Nat)(h:bL S N base g w v vs l sl)(hl:l.length<=1000000)(hq:w.cell? ⟨q,0,none⟩=some (.int .i64 (at_:Nat)))(hat:at_<l.length) :
 Calls prog 72 #[.pointer (some ⟨g,0,none⟩),.slice (some ⟨q,0,none⟩) 1 c] w (mM (.tuple #[]) S N base g w v vs (eP l at_ (l.length:Nat)) sl):=by
 obtain⟨gg,cap,rfl,-,-⟩:=World.ownsRow.form h.pre.row zb;have HP:=yq h;have x0:=h.c0;have hgs:=h.glt;obtain⟨⟨u,z1⟩,z2⟩:=h.cell (at_*4+1) zb;have d1:(at_:Int)<(l.length:Int):=by omega
 have HE:=yq (h.store (at_*4+1) (l.length:Nat) (eP l at_ (l.length:Nat)) (iA _ _ _) (L8 l at_ _ hat));clear h
 go_enter func72,ntmps72
 go_wp2_with fail
 go_loopw [8] (fun v8 wr=>(v8= .int .i64 0/\wr=w)\/(v8= .int .i64 1/\wr=(w.setCell ⟨gg,at_*4+1,none⟩ (.int .i64 (l.length:Nat))).drew)) (fun v8 _=>1-(intOf v8).toNat)
 case atStart=>exact .inl ⟨rfl,rfl⟩
 case round=>
  rcases hrel with ⟨rfl,rfl⟩|⟨rfl,rfl⟩
  ·have hzl:=World.block_lt_of_cell? _ _ z1;have hql:=World.block_lt_of_cell? _ _ hq
   go_wp2_with fail
   go_region
   go_wp2_with fail
   go_roundw
   case rel=>exact .inr ⟨by go_num,by first|rfl|trivial⟩
   case measure=>simp [intOf]
  ·go_wp2_with fail
   go_returns
   refine⟨some ⟨gg,0,none⟩,cap,rfl, ?_⟩;rw [iA];exact⟨HE.out.1.grows growsR,HE.out.2.trans (bR.of growsR)⟩
theorem IA(op:Int)(h:0<=op/\op<=100)(w:World):Calls prog 155 #[.int .i64 op] w fun e w'=>e= .returned (.int .i64 (lH op))/\w=w':=by
 have HM:=yq (show lH op=_ from rfl);by_cases h4:op=4
 ·subst h4;exact Ms
 by_cases h5:op=5
 ·subst h5;exact Ms
 by_cases h6:op=6
 ·subst h6;exact Ms
 by_cases h19:op=19
 ·subst h19;exact Ms
 by_cases h20:op=20
 ·subst h20;exact Ms
 have b4:(op==4)=false:=by simpa using h4
 have b5:(op==5)=false:=by simpa using h5
 have b6:(op==6)=false:=by simpa using h6
 have b19:(op==19)=false:=by simpa using h19
 have b20:(op==20)=false:=by simpa using h20
 have HE:=yq (show lH op=op-7+9 by unfold lH;rw [if_neg h4,if_neg h5,if_neg h6,if_neg h19,if_neg h20];omega);clear h4 h5 h6 h19 h20 HM;have w1:IntKind.i64.wrap (op-7)=op-7:=IntWalk.i64_in _ zb;have w2:IntKind.i64.wrap (op-7+9)=op-7+9:=IntWalk.i64_in _ zb
 go_enter func155,ntmps155
 go_wp2_with fail
 go_returns
 exact⟨by rw [HE.out];rfl,rfl⟩
structure GSt(S:Nat->Prop)(N base g:Nat)(Wb wr:World)(v vr vs:Value)(L:List Ins)(sl:List ByteArray)(e:Ex)(ea:Option Addr)(ec:Nat):Prop where
 pre:bL S N base g wr vr vs L sl
 ext:bR g Wb wr v vr
 ex:ax S wr e (.slice ea e.args.length ec)
def Sj(S:Nat->Prop)(N base g:Nat)(Wb:World)(v vs:Value)(L:List Ins)(sl:List ByteArray)(e:Ex)(ea:Option Addr)(ec:Nat)(rv:Value)(r:Ending)(w':World):Prop:=∃a c,r= .returned rv/\GSt S N base g Wb w' v (.slice a L.length c) vs L sl e ea ec
def vH(sl:List ByteArray)(e:Ex):Prop:=∀(S:Nat->Prop) (N base g:Nat) (w:World) (v vs ve:Value) (l:List Ins),bL S N base g w v vs l sl->ax S w e ve->l.length+(codeF (slK sl) e l.length).length<=1000000->
 Calls prog 107 #[.pointer (some ⟨g,0,none⟩),exV e ve] w (mM (.tuple #[]) S N base g w v vs (l++codeF (slK sl) e l.length) sl)
section
variable {S : Nat -> Prop} {N base g : Nat} {Wb wr w1 W : World} {v vr vs : Value} {L : List Ins} {sl : List ByteArray} {e : Ex} {ea : Option Addr} {ec : Nat}
theorem GSt.next{v1:Value}{L1:List Ins}(h:GSt S N base g Wb wr v vr vs L sl e ea ec)(hp:bL S N base g w1 v1 vs L1 sl)(hx:bR g wr w1 vr v1):GSt S N base g Wb w1 v v1 vs L1 sl e ea ec:=
 ⟨hp,h.ext.trans hx,h.pre.ex hx h.ex⟩
theorem GSt.grows(h:GSt S N base g Wb wr v vr vs L sl e ea ec)(hg:wr.Grows W):GSt S N base g Wb W v vr vs L sl e ea ec:=h.next (h.pre.grows hg) (bR.of hg)
theorem GSt.emit(h:GSt S N base g Wb wr v vr vs L sl e ea ec)(op a:Int)(hl:L.length<=1000000) :
 Calls prog 70 #[.pointer (some ⟨g,0,none⟩),.int .i64 op,.int .i64 a] wr (Sj S N base g Wb v vs (L++[⟨op,a,0,0⟩]) sl e ea ec (.int .i64 (L.length:Nat))):=
 (jk op a h.pre hl).mono fun _ _ ⟨a,c,he,hp,hx⟩=>⟨a,c,he,h.next hp hx⟩
theorem GSt.patch(h:GSt S N base g Wb wr v vr vs L sl e ea ec)(q c at_:Nat)(hl:L.length<=1000000)(hq:wr.cell? ⟨q,0,none⟩=some (.int .i64 (at_:Nat)))(hat:at_<L.length) :
 Calls prog 72 #[.pointer (some ⟨g,0,none⟩),.slice (some ⟨q,0,none⟩) 1 c] wr (Sj S N base g Wb v vs (eP L at_ (L.length:Nat)) sl e ea ec (.tuple #[])):=
 (wN q c at_ h.pre hl hq hat).mono fun _ _ ⟨a,c,he,hp,hx⟩=>⟨a,c,he,h.next hp hx⟩
theorem GSt.call(h:GSt S N base g Wb wr v vr vs L sl e ea ec)(k:Nat)(va:Value)(hva:ax S wr (e.arg k) va)(hk:vH sl (e.arg k))(hl:L.length+(codeF (slK sl) (e.arg k) L.length).length<=1000000) :
 Calls prog 107 #[.pointer (some ⟨g,0,none⟩),exV (e.arg k) va] wr (Sj S N base g Wb v vs (L++codeF (slK sl) (e.arg k) L.length) sl e ea ec (.tuple #[])):=
 (hk S N base g wr vr vs va L h.pre hva hl).mono fun _ _ ⟨a,c,he,hp,hx⟩=>⟨a,c,he,h.next hp hx⟩
theorem GSt.box{w0:World}{o:Obj}(h:GSt S N base g (w0.alloc o) wr v vr vs L sl e ea ec)(hn:some w0.heap.size≠v.ownBlock)(hg:w0.heap.size≠g):wr.heap[w0.heap.size]? =some o:=
 (bL.far h.ext zd hn hg).1.trans (heap_alloc_new _ _)
theorem GSt.arg(h:GSt S N base g Wb wr v vr vs L sl e ea ec)(hn:0<e.args.length):∃b off,ea=some ⟨b,off,none⟩/\b<wr.heap.size/\
 ∀k,k<e.args.length->∃ak ck,FI wr b (off+k*6) (e.arg k) (.slice ak (e.arg k).args.length ck)/\ax S wr (e.arg k) (.slice ak (e.arg k).args.length ck):=h.ex.args9 hn
theorem GSt.done{w0:World}{rv:Value}{a:Option Addr}{c:Nat}(hg:w0.Grows Wb)(h:GSt S N base g Wb wr v (.slice a L.length c) vs L sl e ea ec):mM rv S N base g w0 v vs L sl (.returned rv) wr:=⟨a,c,rfl,h.pre,bR.grows hg h.ext⟩
end
theorem EI(l:List Ins)(o a x y z:Int):(gG (l++[⟨o,a,x,y⟩])).set (l.length*4+2) (.int .i64 z)=gG (l++[⟨o,a,z,y⟩]):=by
 exact SY
theorem EH(l:List Ins)(o a x y z:Int):(gG (l++[⟨o,a,x,y⟩])).set (l.length*4+3) (.int .i64 z)=gG (l++[⟨o,a,x,z⟩]):=by
 exact SY
theorem RD{S:Nat->Prop}{N base g:Nat}{w:World}{v vs ve:Value}{l:List Ins}{sl:List ByteArray}(n d m:Int)(s:ByteArray)(h:bL S N base g w v vs l sl)(hl:l.length<=1000000) :
 Calls prog 107 #[.pointer (some ⟨g,0,none⟩),.agg #[.int .i64 1,.int .i64 n,.int .i64 d,.int .i64 m,.string s,ve]] w (mM (.tuple #[]) S N base g w v vs (l++[⟨1,m,n,d⟩]) sl):=by
 have HE:=yq (jk 1 m (h.grows (w':=w.alloc (.cells #[.int .i64 1,.int .i64 n,.int .i64 d,.int .i64 m,.string s,ve] 27)) growsR) hl);have HN:=yq h.new;have HG:=yq h.glt;have HL:=yq hl;clear h hl
 go_enter func107,ntmps107
 go_upto_region 10 with (go_at_call 70;refine HE.out.mono ?_;rintro e' w1 ⟨a1,c1,rfl,hp,hx⟩)
 have hbx:=(bL.far hx (b:=w.heap.size) zd HN.out (by have:=HG.out;omega)).1.trans (heap_alloc_new _ _);have hbl:=(Array.getElem?_eq_some_iff.1 hbx).1;have x1:=cell_of_row w1 _ 1 _ _ _ hbx;have x2:=cell_of_row w1 _ 2 _ _ _ hbx;clear hbx;obtain⟨gg,cap,e1,-,-⟩:=World.ownsRow.form hp.pre.row zd;cases e1;have g0:=hp.c0;have hgl:=hp.glt;obtain⟨⟨u2,z2⟩,f2⟩:=hp.cell (l.length*4+2) zg;obtain⟨⟨u3,z3⟩,f3⟩:=hp.cell (l.length*4+3) zg;have hzl:=World.block_lt_of_cell? _ _ z2;obtain⟨hp2,hx2⟩:=hp.store (l.length*4+2) n (l++[⟨1,m,n,0⟩]) zd (EI l 1 m 0 0 n);have hp2':bL S N base g (w1.setCell ⟨gg,l.length*4+2,none⟩ (.int .i64 n)) (.slice (some ⟨gg,0,none⟩) (l++[(⟨1,m,n,0⟩:Ins)]).length c1) vs (l++[⟨1,m,n,0⟩]) sl:=by simpa using hp2
 obtain⟨hp3,hx3⟩:=hp2'.store (l.length*4+3) d (l++[⟨1,m,n,d⟩]) zd (EH l 1 m n 0 d)
 have HF:Hid (mM (.tuple #[]) S N base g w v vs (l++[⟨1,m,n,d⟩]) sl (.returned (.tuple #[])) ((w1.setCell ⟨gg,l.length*4+2,none⟩ (.int .i64 n)).setCell ⟨gg,l.length*4+3,none⟩ (.int .i64 d))):=yq (by
  refine⟨some ⟨gg,0,none⟩,c1,rfl,by simpa using hp3, ?_⟩;have k2:bR g w1 (w1.setCell ⟨gg,l.length*4+2,none⟩ (.int .i64 n)) (.slice (some ⟨gg,0,none⟩) (l++[(⟨1,m,n,d⟩:Ins)]).length c1) (.slice (some ⟨gg,0,none⟩) (l++[(⟨1,m,n,d⟩:Ins)]).length c1):=by simpa using hx2
  have k3:bR g (w1.setCell ⟨gg,l.length*4+2,none⟩ (.int .i64 n)) ((w1.setCell ⟨gg,l.length*4+2,none⟩ (.int .i64 n)).setCell ⟨gg,l.length*4+3,none⟩ (.int .i64 d)) (.slice (some ⟨gg,0,none⟩) (l++[(⟨1,m,n,d⟩:Ins)]).length c1) (.slice (some ⟨gg,0,none⟩) (l++[(⟨1,m,n,d⟩:Ins)]).length c1):=by simpa using hx3
  have k1:bR g w w1 v (.slice (some ⟨gg,0,none⟩) (l++[(⟨1,m,n,d⟩:Ins)]).length c1):=bR.grows (w1:=w.alloc (.cells #[.int .i64 1,.int .i64 n,.int .i64 d,.int .i64 m,.string s,ve] 27)) growsR (by simpa using hx)
  exact(k1.trans k2).trans k3)
 clear hp hx hp2 hx2 hp2' hp3 hx3;simp only [length_append,length_cons,length_nil,Nat.zero_add]at g0;have d1:(l.length:Int)<(l.length:Int)+1:=by omega
 go_region
 go_wp2_with fail
 go_returns
 obtain⟨a9,c9,-,k1,k2⟩:=HF.out;exact⟨a9,c9,rfl,k1.grows growsR,k2.trans (bR.of growsR)⟩
theorem Pw{S:Nat->Prop}{N base g:Nat}{w:World}{v vs ve:Value}{l:List Ins}{sl:List ByteArray}(n d m:Int)(s:ByteArray)(h:bL S N base g w v vs l sl)(hl:l.length<=1000000) :
 Calls prog 107 #[.pointer (some ⟨g,0,none⟩),.agg #[.int .i64 3,.int .i64 n,.int .i64 d,.int .i64 m,.string s,ve]] w (mM (.tuple #[]) S N base g w v vs (l++[⟨5,n,0,0⟩]) sl):=by
 have HE:=yq (jk 5 n (h.grows (w':=w.alloc (.cells #[.int .i64 3,.int .i64 n,.int .i64 d,.int .i64 m,.string s,ve] 27)) growsR) hl);clear h hl
 go_enter func107,ntmps107
 go_wp2_with (go_at_call 70;refine HE.out.mono ?_;rintro e' w1 ⟨a1,c1,rfl,hp,hx⟩;have HP:=yq hp;have HX:=yq hx;clear hp hx)
 go_returns
 exact⟨a1,c1,rfl,HP.out,bR.grows growsR HX.out⟩
def Ua(w:World)(e:Ending)(w':World):Prop:=∃g,e= .returned (.slice (some ⟨g,0,none⟩) 11 11)/\w.Grows w'/\∃ty,w'.heap[g]? =some (.cells Cr ty (0,0))
theorem rU(w:World):Calls prog 153 #[] w (Ua w):=by
 go_enter func153,ntmps153
 go_wp2_with (go_at_call 191;refine gv (Co _) ?_;intro bs d;unfold Cr)
 go_returns
 exact⟨_,rfl,growsR,_,heap_new _ _ _ zd⟩
def vQ:List ByteArray:=(List.range 11).map fC
theorem l8:vQ.length=11:=by unfold vQ;simp
theorem pq{k:Nat}(h:k<11):vQ.getD k ByteArray.empty=fC k:=by
 unfold vQ;rw [getD_eq_getElem?_getD,getElem?_map,getElem?_range h];rfl
theorem Cq(s:ByteArray):pK vQ s=Md s:=by
 cases hk:jd s with
 |some k=>
  obtain⟨h1,h2⟩:=qC hk
  rw [Gx (k:=k) (by rw [l8];exact h1) ((pq h1).trans h2) fun j hj e=>by
   rw [pq zb]at e;have:=Gs zb e
   rw [hk]at this;cases this;omega]
  unfold Md;rw [hk]
 |none=>
  rw [Gw fun j hj e=>by
   rw [l8]at hj;rw [pq hj]at e;have:=Gs hj e
   rw [hk]at this;cases this]
  unfold Md;rw [hk]
theorem Gr{w:World}{g:Nat}{ty:TypeId}(h:w.heap[g]? =some (.cells Cr ty (0,0))):rQ w (.slice (some ⟨g,0,none⟩) 11 11) vQ:=by
 refine⟨by rw [l8];omega,some ⟨g,0,none⟩,11,by rw [l8],.inr ⟨g,0,rfl,(Array.getElem?_eq_some_iff.1 h).1,fun i hi=>?_⟩⟩;rw [l8]at hi;rw [Nat.zero_add,pq hi];exact(cell_of_row w g i _ _ _ h).trans (uB i hi)
theorem Sg.txt{S:Nat->Prop}{w:World}{v:Value}{sl:List ByteArray}(h:Sg S w v sl):rQ w v sl:=by
 obtain⟨h1,-,a,c,-,h4,h5⟩:=h;refine⟨h1,a,c,h4,h5.imp id ?_⟩;rintro⟨b,off,ha,-,hb,hc⟩;exact⟨b,off,ha,hb,hc⟩
theorem rQ.grows{w w':World}{v:Value}{l:List ByteArray}(h:rQ w v l)(hg:w.Grows w'):rQ w' v l:=by
 obtain⟨h1,a,c,h4,h5⟩:=h;refine⟨h1,a,c,h4,h5.imp id ?_⟩;rintro⟨b,off,ha,hb,hc⟩;exact⟨b,off,ha,Nat.lt_of_lt_of_le hb hg.below.size,fun i hi=>(World.cell?_of_block (a:=⟨b,off+i,none⟩) (hg.below.block b hb)).trans (hc i hi)⟩
theorem rQ.form{w:World}{v:Value}{l:List ByteArray}(h:rQ w v l):∃a c,v= .slice a l.length c:=by obtain⟨-,a,c,h,-⟩:=h;exact⟨a,c,h⟩
theorem TJ{S:Nat->Prop}{N base g:Nat}{w:World}{v vs ve:Value}{l:List Ins}{sl:List ByteArray}(e:Ex)(hop:e.op=21)(hal:e.args.length=3)
 (hIH:∀k,k<e.args.length->vH sl (e.arg k)) (h:bL S N base g w v vs l sl) (hr:ax S w e ve)
 (L1 L2 L3 L4 L5 L6:List Ins) (hL1:L1=l++codeF (slK sl) (e.arg 0) l.length) (hL2:L2=L1++[⟨22,0,0,0⟩]) (hL3:L3=L2++codeF (slK sl) (e.arg 1) L2.length) (hL4:L4=L3++[⟨21,0,0,0⟩]) (hL5:L5=eP L4 L1.length L4.length) (hL6:L6=L5++codeF (slK sl) (e.arg 2) L5.length) (hl:L6.length<=1000000) :
 Calls prog 154 #[.pointer (some ⟨g,0,none⟩),exV e ve] w (mM (.tuple #[]) S N base g w v vs (eP L6 L3.length L6.length) sl):=by
 obtain⟨ea,ec,rfl⟩:=hr.form0;have n1:L1.length=l.length+(codeF (slK sl) (e.arg 0) l.length).length:=by rw [hL1,length_append]
 have n2:L2.length=L1.length+1:=by rw [hL2,length_append];rfl
 have n3:L2.length<=L3.length:=by rw [hL3,length_append];omega
 have n4:L4.length=L3.length+1:=by rw [hL4,length_append];rfl
 have n5:L5.length=L4.length:=by rw [hL5,iA]
 have n6:L5.length<=L6.length:=by rw [hL6,length_append];omega
 have h0:GSt S N base g ((w.alloc (.cells #[.int .i64 e.op,.int .i64 e.num,.int .i64 e.den,.int .i64 e.dim,.string e.name,.slice ea e.args.length ec] 27))) ((w.alloc (.cells #[.int .i64 e.op,.int .i64 e.num,.int .i64 e.den,.int .i64 e.dim,.string e.name,.slice ea e.args.length ec] 27))) v v vs l sl e ea ec:=⟨h.grows growsR,bR.of (.refl _),hr.grows growsR⟩;obtain⟨b,off,rfl,hbw,hx0⟩:=hr.args9 zb;obtain⟨ak0,ck0,⟨y00,y10,y20,y30,y40,y50⟩,hra0⟩:=hx0 0 zb;simp only [Nat.zero_mul,Nat.add_zero]at y00 y10 y20 y30 y40 y50;have HC0:=yq (h0.call 0 _ (hra0.grows growsR) (hIH 0 zb) zb);rw [<-hL1]at HC0;unfold exV at HC0;have HNW:=yq h.new;have HNG:Hid (w.heap.size≠g):=yq yp;have HAN:Hid (0<e.args.length):=yq zb;have HAE:=yq hal;have HIH:=yq hIH;have HLN:Hid (l.length<=L1.length/\L1.length+1=L2.length/\L2.length<=L3.length/\L3.length+1=L4.length/\L4.length=L5.length/\L5.length<=L6.length/\L6.length<=1000000):=yq zb;have HL2:=yq hL2;have HL3:=yq hL3;have HL4:=yq hL4;have HL5:=yq hL5;have HL6:=yq hL6;have HL7:Hid (eP L6 L3.length (L6.length:Nat)=eP L6 L3.length (L6.length:Nat)):=yq rfl;have dA0:(0:Int)<(e.args.length:Int):=by omega
 have dA1:(1:Int)<(e.args.length:Int):=by omega
 have dA2:(2:Int)<(e.args.length:Int):=by omega
 have q17:(e.op==17)=false:=by rw [hop];rfl
 have q18:(e.op==18)=false:=by rw [hop];rfl
 clear h hr hIH n1 n2 n3 n4 n5 n6 h0 hx0 hra0 hL1 hL2 hL3 hL4 hL5 hL6 hl hal hop;unfold exV
 go_enter func154,ntmps154
 go_upto_region 2 with (go_at_call 107;refine HC0.out.mono ?_;rintro e' w1 ⟨a1,c1,rfl,h1⟩;have H1:=yq h1;clear h1)
 clear y00 y10 y20 y30 y40 y50;have hbx1:=H1.out.box HNW.out HNG.out;have x01:=cell_of_row w1 _ 0 _ _ _ hbx1;have x41:=cell_of_row w1 _ 5 _ _ _ hbx1;have hbl1:=(Array.getElem?_eq_some_iff.1 hbx1).1;clear hbx1
 go_upto_region 3 with (go_at_call 70;refine(H1.out.emit 22 0 zu).mono ?_;rintro e' w2 ⟨a2,c2,rfl,h2⟩;rw [<-HL2.out]at h2;have H2:=yq h2;clear h2)
 clear x01 x41 hbl1;have hbx2:=H2.out.box HNW.out HNG.out;have x02:=cell_of_row w2 _ 0 _ _ _ hbx2;have x42:=cell_of_row w2 _ 5 _ _ _ hbx2;have hbl2:=(Array.getElem?_eq_some_iff.1 hbx2).1;clear hbx2;obtain⟨b',off',hea,hb2,hx2⟩:=H2.out.arg HAN.out;cases hea;obtain⟨ak2,ck2,⟨y02,y12,y22,y32,y42,y52⟩,hra2⟩:=hx2 1 zM;simp only [Nat.one_mul,Nat.reduceMul,Nat.add_assoc,Nat.reduceAdd]at y02 y12 y22 y32 y42 y52;have HC2:=yq (H2.out.call 1 _ hra2 (HIH.out 1 zM) yS);rw [<-HL3.out]at HC2;unfold exV at HC2;clear hx2 hra2
 go_upto_region 7 with (go_at_call 107;refine HC2.out.mono ?_;rintro e' w3 ⟨a3,c3,rfl,h3⟩;have H3:=yq h3;clear h3)
 clear y02 y12 y22 y32 y42 y52 hb2 x02 x42 hbl2;have hbx3:=H3.out.box HNW.out HNG.out;have x03:=cell_of_row w3 _ 0 _ _ _ hbx3;have x43:=cell_of_row w3 _ 5 _ _ _ hbx3;have hbl3:=(Array.getElem?_eq_some_iff.1 hbx3).1;clear hbx3
 go_upto_region 8 with (go_at_call 70;refine(H3.out.emit 21 0 zu).mono ?_;rintro e' w4 ⟨a4,c4,rfl,h4⟩;rw [<-HL4.out]at h4;have H4:=yq h4;clear h4)
 clear x03 x43 hbl3;have hbx4:=H4.out.box HNW.out HNG.out;have x04:=cell_of_row w4 _ 0 _ _ _ hbx4;have x44:=cell_of_row w4 _ 5 _ _ _ hbx4;have hbl4:=(Array.getElem?_eq_some_iff.1 hbx4).1;clear hbx4
 go_upto_region 9 with (go_at_call 72;refine((H4.out.grows growsR).patch _ _ L1.length zu (cell_of_row _ _ 0 _ _ _ (heap_alloc_new _ _)) zu).mono ?_;rintro e' w5 ⟨a5,c5,rfl,h5⟩;rw [<-HL5.out]at h5;have H5:=yq h5;clear h5)
 clear x04 x44 hbl4;have hbx5:=H5.out.box HNW.out HNG.out;have x05:=cell_of_row w5 _ 0 _ _ _ hbx5;have x45:=cell_of_row w5 _ 5 _ _ _ hbx5;have hbl5:=(Array.getElem?_eq_some_iff.1 hbx5).1;clear hbx5;obtain⟨b',off',hea,hb5,hx5⟩:=H5.out.arg HAN.out;cases hea;obtain⟨ak5,ck5,⟨y05,y15,y25,y35,y45,y55⟩,hra5⟩:=hx5 2 zM;simp only [Nat.one_mul,Nat.reduceMul,Nat.add_assoc,Nat.reduceAdd]at y05 y15 y25 y35 y45 y55;have HC5:=yq (H5.out.call 2 _ hra5 (HIH.out 2 zM) yT);rw [<-HL6.out]at HC5;unfold exV at HC5;clear hx5 hra5
 go_upto_region 15 with (go_at_call 107;refine HC5.out.mono ?_;rintro e' w6 ⟨a6,c6,rfl,h6⟩;have H6:=yq h6;clear h6)
 clear y05 y15 y25 y35 y45 y55 hb5 x05 x45 hbl5;have hbx6:=H6.out.box HNW.out HNG.out;have x06:=cell_of_row w6 _ 0 _ _ _ hbx6;have x46:=cell_of_row w6 _ 5 _ _ _ hbx6;have hbl6:=(Array.getElem?_eq_some_iff.1 hbx6).1;clear hbx6
 go_upto_region 15 with fail
 go_wp2_with (go_at_call 72;refine((H6.out.grows growsR).patch _ _ L3.length zu (cell_of_row _ _ 0 _ _ _ (heap_alloc_new _ _)) zu).mono ?_;rintro e' w7 ⟨a7,c7,rfl,h7⟩;have H7:=yq h7;clear h7)
 go_returns
 exact GSt.done growsR H7.out
theorem RG{S:Nat->Prop}{N base g:Nat}{w:World}{v vs ve:Value}{l:List Ins}{sl:List ByteArray}(e:Ex)(hop:e.op=17)(hal:e.args.length=2)
 (hIH:∀k,k<e.args.length->vH sl (e.arg k)) (h:bL S N base g w v vs l sl) (hr:ax S w e ve)
 (L1 L2 L3 L4 L5 L6:List Ins) (hL1:L1=l++codeF (slK sl) (e.arg 0) l.length) (hL2:L2=L1++[⟨22,0,0,0⟩]) (hL3:L3=L2++codeF (slK sl) (e.arg 1) L2.length) (hL4:L4=L3++[⟨21,0,0,0⟩]) (hL5:L5=eP L4 L1.length L4.length) (hL6:L6=L5++[⟨24,0,0,0⟩]) (hl:L6.length<=1000000) :
 Calls prog 154 #[.pointer (some ⟨g,0,none⟩),exV e ve] w (mM (.tuple #[]) S N base g w v vs (eP L6 L3.length L6.length) sl):=by
 obtain⟨ea,ec,rfl⟩:=hr.form0;have n1:L1.length=l.length+(codeF (slK sl) (e.arg 0) l.length).length:=by rw [hL1,length_append]
 have n2:L2.length=L1.length+1:=by rw [hL2,length_append];rfl
 have n3:L2.length<=L3.length:=by rw [hL3,length_append];omega
 have n4:L4.length=L3.length+1:=by rw [hL4,length_append];rfl
 have n5:L5.length=L4.length:=by rw [hL5,iA]
 have n6:L5.length<=L6.length:=by rw [hL6,length_append];omega
 have h0:GSt S N base g ((w.alloc (.cells #[.int .i64 e.op,.int .i64 e.num,.int .i64 e.den,.int .i64 e.dim,.string e.name,.slice ea e.args.length ec] 27))) ((w.alloc (.cells #[.int .i64 e.op,.int .i64 e.num,.int .i64 e.den,.int .i64 e.dim,.string e.name,.slice ea e.args.length ec] 27))) v v vs l sl e ea ec:=⟨h.grows growsR,bR.of (.refl _),hr.grows growsR⟩;obtain⟨b,off,rfl,hbw,hx0⟩:=hr.args9 zb;obtain⟨ak0,ck0,⟨y00,y10,y20,y30,y40,y50⟩,hra0⟩:=hx0 0 zb;simp only [Nat.zero_mul,Nat.add_zero]at y00 y10 y20 y30 y40 y50;have HC0:=yq (h0.call 0 _ (hra0.grows growsR) (hIH 0 zb) zb);rw [<-hL1]at HC0;unfold exV at HC0;have HNW:=yq h.new;have HNG:Hid (w.heap.size≠g):=yq yp;have HAN:Hid (0<e.args.length):=yq zb;have HAE:=yq hal;have HIH:=yq hIH;have HLN:Hid (l.length<=L1.length/\L1.length+1=L2.length/\L2.length<=L3.length/\L3.length+1=L4.length/\L4.length=L5.length/\L5.length<=L6.length/\L6.length<=1000000):=yq zb;have HL2:=yq hL2;have HL3:=yq hL3;have HL4:=yq hL4;have HL5:=yq hL5;have HL6:=yq hL6;have HL7:Hid (eP L6 L3.length (L6.length:Nat)=eP L6 L3.length (L6.length:Nat)):=yq rfl;have dA0:(0:Int)<(e.args.length:Int):=by omega
 have dA1:(1:Int)<(e.args.length:Int):=by omega
 have q17:(e.op==17)=true:=by rw [hop];rfl
 have q18:(e.op==18)=false:=by rw [hop];rfl
 clear h hr hIH n1 n2 n3 n4 n5 n6 h0 hx0 hra0 hL1 hL2 hL3 hL4 hL5 hL6 hl hal hop;unfold exV
 go_enter func154,ntmps154
 go_upto_region 2 with (go_at_call 107;refine HC0.out.mono ?_;rintro e' w1 ⟨a1,c1,rfl,h1⟩;have H1:=yq h1;clear h1)
 clear y00 y10 y20 y30 y40 y50;have hbx1:=H1.out.box HNW.out HNG.out;have x01:=cell_of_row w1 _ 0 _ _ _ hbx1;have x41:=cell_of_row w1 _ 5 _ _ _ hbx1;have hbl1:=(Array.getElem?_eq_some_iff.1 hbx1).1;clear hbx1
 go_upto_region 3 with (go_at_call 70;refine(H1.out.emit 22 0 zu).mono ?_;rintro e' w2 ⟨a2,c2,rfl,h2⟩;rw [<-HL2.out]at h2;have H2:=yq h2;clear h2)
 clear x01 x41 hbl1;have hbx2:=H2.out.box HNW.out HNG.out;have x02:=cell_of_row w2 _ 0 _ _ _ hbx2;have x42:=cell_of_row w2 _ 5 _ _ _ hbx2;have hbl2:=(Array.getElem?_eq_some_iff.1 hbx2).1;clear hbx2;obtain⟨b',off',hea,hb2,hx2⟩:=H2.out.arg HAN.out;cases hea;obtain⟨ak2,ck2,⟨y02,y12,y22,y32,y42,y52⟩,hra2⟩:=hx2 1 zM;simp only [Nat.one_mul,Nat.reduceMul,Nat.add_assoc,Nat.reduceAdd]at y02 y12 y22 y32 y42 y52;have HC2:=yq (H2.out.call 1 _ hra2 (HIH.out 1 zM) yS);rw [<-HL3.out]at HC2;unfold exV at HC2;clear hx2 hra2
 go_upto_region 7 with (go_at_call 107;refine HC2.out.mono ?_;rintro e' w3 ⟨a3,c3,rfl,h3⟩;have H3:=yq h3;clear h3)
 clear y02 y12 y22 y32 y42 y52 hb2 x02 x42 hbl2;have hbx3:=H3.out.box HNW.out HNG.out;have x03:=cell_of_row w3 _ 0 _ _ _ hbx3;have x43:=cell_of_row w3 _ 5 _ _ _ hbx3;have hbl3:=(Array.getElem?_eq_some_iff.1 hbx3).1;clear hbx3
 go_upto_region 8 with (go_at_call 70;refine(H3.out.emit 21 0 zu).mono ?_;rintro e' w4 ⟨a4,c4,rfl,h4⟩;rw [<-HL4.out]at h4;have H4:=yq h4;clear h4)
 clear x03 x43 hbl3;have hbx4:=H4.out.box HNW.out HNG.out;have x04:=cell_of_row w4 _ 0 _ _ _ hbx4;have x44:=cell_of_row w4 _ 5 _ _ _ hbx4;have hbl4:=(Array.getElem?_eq_some_iff.1 hbx4).1;clear hbx4
 go_upto_region 9 with (go_at_call 72;refine((H4.out.grows growsR).patch _ _ L1.length zu (cell_of_row _ _ 0 _ _ _ (heap_alloc_new _ _)) zu).mono ?_;rintro e' w5 ⟨a5,c5,rfl,h5⟩;rw [<-HL5.out]at h5;have H5:=yq h5;clear h5)
 clear x04 x44 hbl4;have hbx5:=H5.out.box HNW.out HNG.out;have x05:=cell_of_row w5 _ 0 _ _ _ hbx5;have x45:=cell_of_row w5 _ 5 _ _ _ hbx5;have hbl5:=(Array.getElem?_eq_some_iff.1 hbx5).1;clear hbx5
 go_upto_region 15 with (go_at_call 70;refine(H5.out.emit 24 0 zu).mono ?_;rintro e' w6 ⟨a6,c6,rfl,h6⟩;rw [<-HL6.out]at h6;have H6:=yq h6;clear h6)
 clear x05 x45 hbl5;have hbx6:=H6.out.box HNW.out HNG.out;have x06:=cell_of_row w6 _ 0 _ _ _ hbx6;have x46:=cell_of_row w6 _ 5 _ _ _ hbx6;have hbl6:=(Array.getElem?_eq_some_iff.1 hbx6).1;clear hbx6
 go_upto_region 15 with fail
 go_wp2_with (go_at_call 72;refine((H6.out.grows growsR).patch _ _ L3.length zu (cell_of_row _ _ 0 _ _ _ (heap_alloc_new _ _)) zu).mono ?_;rintro e' w7 ⟨a7,c7,rfl,h7⟩;have H7:=yq h7;clear h7)
 go_returns
 exact GSt.done growsR H7.out
theorem TI{S:Nat->Prop}{N base g:Nat}{w:World}{v vs ve:Value}{l:List Ins}{sl:List ByteArray}(e:Ex)(hop:e.op=18)(hal:e.args.length=2)
 (hIH:∀k,k<e.args.length->vH sl (e.arg k)) (h:bL S N base g w v vs l sl) (hr:ax S w e ve)
 (L1 L2 L3 L4 L5 L6:List Ins) (hL1:L1=l++codeF (slK sl) (e.arg 0) l.length) (hL2:L2=L1++[⟨22,0,0,0⟩]) (hL3:L3=L2++[⟨23,0,0,0⟩]) (hL4:L4=L3++[⟨21,0,0,0⟩]) (hL5:L5=eP L4 L1.length L4.length) (hL6:L6=L5++codeF (slK sl) (e.arg 1) L5.length) (hl:L6.length<=1000000) :
 Calls prog 154 #[.pointer (some ⟨g,0,none⟩),exV e ve] w (mM (.tuple #[]) S N base g w v vs (eP L6 L3.length L6.length) sl):=by
 obtain⟨ea,ec,rfl⟩:=hr.form0;have n1:L1.length=l.length+(codeF (slK sl) (e.arg 0) l.length).length:=by rw [hL1,length_append]
 have n2:L2.length=L1.length+1:=by rw [hL2,length_append];rfl
 have n3:L2.length<=L3.length:=by rw [hL3,length_append];omega
 have n4:L4.length=L3.length+1:=by rw [hL4,length_append];rfl
 have n5:L5.length=L4.length:=by rw [hL5,iA]
 have n6:L5.length<=L6.length:=by rw [hL6,length_append];omega
 have h0:GSt S N base g ((w.alloc (.cells #[.int .i64 e.op,.int .i64 e.num,.int .i64 e.den,.int .i64 e.dim,.string e.name,.slice ea e.args.length ec] 27))) ((w.alloc (.cells #[.int .i64 e.op,.int .i64 e.num,.int .i64 e.den,.int .i64 e.dim,.string e.name,.slice ea e.args.length ec] 27))) v v vs l sl e ea ec:=⟨h.grows growsR,bR.of (.refl _),hr.grows growsR⟩;obtain⟨b,off,rfl,hbw,hx0⟩:=hr.args9 zb;obtain⟨ak0,ck0,⟨y00,y10,y20,y30,y40,y50⟩,hra0⟩:=hx0 0 zb;simp only [Nat.zero_mul,Nat.add_zero]at y00 y10 y20 y30 y40 y50;have HC0:=yq (h0.call 0 _ (hra0.grows growsR) (hIH 0 zb) zb);rw [<-hL1]at HC0;unfold exV at HC0;have HNW:=yq h.new;have HNG:Hid (w.heap.size≠g):=yq yp;have HAN:Hid (0<e.args.length):=yq zb;have HAE:=yq hal;have HIH:=yq hIH;have HLN:Hid (l.length<=L1.length/\L1.length+1=L2.length/\L2.length<=L3.length/\L3.length+1=L4.length/\L4.length=L5.length/\L5.length<=L6.length/\L6.length<=1000000):=yq zb;have HL2:=yq hL2;have HL3:=yq hL3;have HL4:=yq hL4;have HL5:=yq hL5;have HL6:=yq hL6;have HL7:Hid (eP L6 L3.length (L6.length:Nat)=eP L6 L3.length (L6.length:Nat)):=yq rfl;have dA0:(0:Int)<(e.args.length:Int):=by omega
 have dA1:(1:Int)<(e.args.length:Int):=by omega
 have q17:(e.op==17)=false:=by rw [hop];rfl
 have q18:(e.op==18)=true:=by rw [hop];rfl
 clear h hr hIH n1 n2 n3 n4 n5 n6 h0 hx0 hra0 hL1 hL2 hL3 hL4 hL5 hL6 hl hal hop;unfold exV
 go_enter func154,ntmps154
 go_upto_region 2 with (go_at_call 107;refine HC0.out.mono ?_;rintro e' w1 ⟨a1,c1,rfl,h1⟩;have H1:=yq h1;clear h1)
 clear y00 y10 y20 y30 y40 y50;have hbx1:=H1.out.box HNW.out HNG.out;have x01:=cell_of_row w1 _ 0 _ _ _ hbx1;have x41:=cell_of_row w1 _ 5 _ _ _ hbx1;have hbl1:=(Array.getElem?_eq_some_iff.1 hbx1).1;clear hbx1
 go_upto_region 3 with (go_at_call 70;refine(H1.out.emit 22 0 zu).mono ?_;rintro e' w2 ⟨a2,c2,rfl,h2⟩;rw [<-HL2.out]at h2;have H2:=yq h2;clear h2)
 clear x01 x41 hbl1;have hbx2:=H2.out.box HNW.out HNG.out;have x02:=cell_of_row w2 _ 0 _ _ _ hbx2;have x42:=cell_of_row w2 _ 5 _ _ _ hbx2;have hbl2:=(Array.getElem?_eq_some_iff.1 hbx2).1;clear hbx2
 go_upto_region 7 with (go_at_call 70;refine(H2.out.emit 23 0 zu).mono ?_;rintro e' w3 ⟨a3,c3,rfl,h3⟩;rw [<-HL3.out]at h3;have H3:=yq h3;clear h3)
 clear x02 x42 hbl2;have hbx3:=H3.out.box HNW.out HNG.out;have x03:=cell_of_row w3 _ 0 _ _ _ hbx3;have x43:=cell_of_row w3 _ 5 _ _ _ hbx3;have hbl3:=(Array.getElem?_eq_some_iff.1 hbx3).1;clear hbx3
 go_upto_region 8 with (go_at_call 70;refine(H3.out.emit 21 0 zu).mono ?_;rintro e' w4 ⟨a4,c4,rfl,h4⟩;rw [<-HL4.out]at h4;have H4:=yq h4;clear h4)
 clear x03 x43 hbl3;have hbx4:=H4.out.box HNW.out HNG.out;have x04:=cell_of_row w4 _ 0 _ _ _ hbx4;have x44:=cell_of_row w4 _ 5 _ _ _ hbx4;have hbl4:=(Array.getElem?_eq_some_iff.1 hbx4).1;clear hbx4
 go_upto_region 9 with (go_at_call 72;refine((H4.out.grows growsR).patch _ _ L1.length zu (cell_of_row _ _ 0 _ _ _ (heap_alloc_new _ _)) zu).mono ?_;rintro e' w5 ⟨a5,c5,rfl,h5⟩;rw [<-HL5.out]at h5;have H5:=yq h5;clear h5)
 clear x04 x44 hbl4;have hbx5:=H5.out.box HNW.out HNG.out;have x05:=cell_of_row w5 _ 0 _ _ _ hbx5;have x45:=cell_of_row w5 _ 5 _ _ _ hbx5;have hbl5:=(Array.getElem?_eq_some_iff.1 hbx5).1;clear hbx5;obtain⟨b',off',hea,hb5,hx5⟩:=H5.out.arg HAN.out;cases hea;obtain⟨ak5,ck5,⟨y05,y15,y25,y35,y45,y55⟩,hra5⟩:=hx5 1 zM;simp only [Nat.one_mul,Nat.reduceMul,Nat.add_assoc,Nat.reduceAdd]at y05 y15 y25 y35 y45 y55;have HC5:=yq (H5.out.call 1 _ hra5 (HIH.out 1 zM) yT);rw [<-HL6.out]at HC5;unfold exV at HC5;clear hx5 hra5
 go_upto_region 15 with (go_at_call 107;refine HC5.out.mono ?_;rintro e' w6 ⟨a6,c6,rfl,h6⟩;have H6:=yq h6;clear h6)
 clear y05 y15 y25 y35 y45 y55 hb5 x05 x45 hbl5;have hbx6:=H6.out.box HNW.out HNG.out;have x06:=cell_of_row w6 _ 0 _ _ _ hbx6;have x46:=cell_of_row w6 _ 5 _ _ _ hbx6;have hbl6:=(Array.getElem?_eq_some_iff.1 hbx6).1;clear hbx6
 go_upto_region 15 with fail
 go_wp2_with (go_at_call 72;refine((H6.out.grows growsR).patch _ _ L3.length zu (cell_of_row _ _ 0 _ _ _ (heap_alloc_new _ _)) zu).mono ?_;rintro e' w7 ⟨a7,c7,rfl,h7⟩;have H7:=yq h7;clear h7)
 go_returns
 exact GSt.done growsR H7.out
theorem Ey(env:List (ByteArray × Int)){l:List Ex}(h:∀y∈l,y.op=1):aW env l=(l.map Ex.dim,0):=by
 rw [oq (fun a ha=>by rw [pJ env (h a ha)])];refine Prod.ext (map_congr_left fun a ha=>?_) rfl;rw [pJ env (h a ha)]
theorem LM{y:Ex}(hf:ay y=true)(h1:y.op=1):y.args= []:=by
 rw [dh,Bool.and_eq_true,decide_eq_true_eq,h1]at hf;refine eq_nil_of_length_eq_zero ?_;have:=hf.1;have e:aJ 1=0:=by decide
 omega
theorem Aw{y:Ex}(hf:ay y=true)(h1:y.op=1):aV y.num y.den y.dim=true:=by
 rw [dh,Bool.and_eq_true,if_pos h1,Bool.and_eq_true]at hf;exact hf.2.1
theorem O9{y:Ex}(hf:ay y=true)(h1:y.op=1):(gU y).ok=true:=by
 have:=kG (Aw hf h1);exact Val.num_ok this.2 this.1
theorem iC:∀{l:List Ex},aC l=true->∀y∈l,ay y=true
 | [],_,_,h=>by cases h
 |e::r,h,y,hy=>by
  rw [aC,Bool.and_eq_true]at h;rcases mem_cons.1 hy with rfl|hy
  ·exact h.1
  ·exact iC h.2 y hy
theorem wY:∀{l:List Ex},aC l=true->(∀y∈l,y.op=1)->Ex.sizes l<=l.length/\Ex.depths l<=1
 | [],_,_=>⟨Nat.le_refl _,by rw [Ex.depths];omega⟩
 |e::r,h,hl=>by
  rw [aC,Bool.and_eq_true]at h;obtain⟨a,b⟩:=wY h.2 (fun y hy=>hl y (mem_cons_of_mem _ hy));have hx:=LM h.1 (hl e zd);have e1:e.size=1:=by rw [Ex.size_eq,hx];rfl
  have e2:e.depth=1:=by rw [Ex.depth_eq,hx];rfl
  rw [Ex.sizes,Ex.depths,length_cons];omega
theorem BP{op n d m:Int}{s:ByteArray}{xs:List Ex}(h:ay (.mk op n d m s xs)=true):ay (.mk op n d m s (xs.map aN))=true:=by
 have h0:=h;rw [ay,Bool.and_eq_true]at h;by_cases hl:op=1\/op=2\/op=3
 ·have hx:xs= []:=by
   have:=h.1;simp only [decide_eq_true_eq]at this;unfold aJ at this;rw [if_pos zb]at this;exact eq_nil_of_length_eq_zero zb
  subst hx;exact h0
 ·have h2:=h.2;rw [if_neg zb,if_neg zb,if_neg zb,Bool.and_eq_true]at h2;rw [ay,Bool.and_eq_true];refine⟨by rw [length_map];exact h.1, ?_⟩;rw [if_neg zb,if_neg zb,if_neg zb,Bool.and_eq_true];exact⟨(oz xs h2.1).1,h2.2⟩
theorem Ea{op n d m:Int}{s:ByteArray}{xs:List Ex}(h:ay (.mk op n d m s xs)=true)(ho:4<=op):aC xs=true/\(xs.length:Int)=aJ op:=by
 rw [ay,Bool.and_eq_true,decide_eq_true_eq,if_neg zb,if_neg zb,if_neg zb,Bool.and_eq_true]at h;exact⟨h.2.1,h.1⟩
theorem ES{e:Ex}(h:ay e=true)(k:Nat)(hk:k<e.args.length):ay (e.arg k)=true:=by
 obtain⟨op,n,d,m,s,xs⟩:=e;have hk':k<xs.length:=hk
 have hm:(Ex.mk op n d m s xs).arg k∈xs:=by
  show xs.getD k default∈xs;rw [getD_eq_getElem?_getD,getElem?_eq_getElem hk'];exact getElem_mem hk'
 rw [ay,Bool.and_eq_true,decide_eq_true_eq]at h;by_cases hl:op=1\/op=2\/op=3
 ·have:=h.1;unfold aJ at this;rw [if_pos zb]at this;omega
 ·have h2:=h.2;rw [if_neg zb,if_neg zb,if_neg zb,Bool.and_eq_true]at h2;exact iC h2.1 _ hm
structure bi(e:Ex):Prop where
 op:gH e.op=true
 lit:∀y∈e.args,y.op=1
 form:ay e=true
theorem bi.args{e:Ex}(h:bi e):aC e.args=true/\(e.args.length:Int)=aJ e.op:=by
 have:=bQ h.op;cases e;exact Ea h.form this.1
theorem bi.valid{e:Ex}(h:bi e):bB e=true:=by
 have hb:=bQ h.op;obtain⟨h1,h2⟩:=h.args;obtain⟨h3,h4⟩:=wY h1 h.lit;unfold bB;rw [h.form,Bool.and_true,Bool.and_eq_true,decide_eq_true_eq,decide_eq_true_eq,Ex.size_eq,Ex.depth_eq];have:aJ e.op<=2:=by unfold aJ;(repeat' split)<;>omega
 omega
theorem bi.infer{e:Ex}(h:bi e):aQ [] e=(if ag e.op (e.args.map Ex.dim)=0 then(0,6)else(ag e.op (e.args.map Ex.dim),0)):=by
 unfold aQ;rw [if_pos ⟨h.valid,rfl⟩,gV,Ey [] h.lit];have hb:=bQ h.op;unfold fo;rw [if_neg zb,if_neg zb,if_neg zb];simp
theorem bi.arg{e:Ex}(h:bi e){i:Nat}(hi:i<e.args.length):(e.arg i).op=1/\(gU (e.arg i)).ok=true:=by
 have hm:e.arg i∈e.args:=by
  exact SL
 exact⟨h.lit _ hm,O9 (iC h.args.1 _ hm) (h.lit _ hm)⟩
theorem bi.one{e:Ex}(h:bi e)(h6:e.op<=6):e.args= [e.arg 0]:=by
 have hb:=bQ h.op;have hl:=h.args.2;have ea:aJ e.op=1:=by unfold aJ;rw [if_neg zb,if_pos zb]
 rw [ea]at hl;obtain⟨a,ha⟩:=length_eq_one_iff.1 (show e.args.length=1 by omega);unfold Ex.arg;rw [ha];rfl
theorem bi.two{e:Ex}(h:bi e)(h6:7<=e.op):e.args= [e.arg 0,e.arg 1]:=by
 have hb:=bQ h.op;have hl:=h.args.2;have ea:aJ e.op=2:=by unfold aJ;rw [if_neg zb,if_neg zb,if_pos zb]
 rw [ea]at hl;unfold Ex.arg
 match ha:e.args,(show e.args.length=2 by omega)with
 | [a,b],_=>rfl
theorem bi.ok{e:Ex}(h:bi e)(hr:ag e.op (e.args.map Ex.dim)≠0):okR (ag e.op (e.args.map Ex.dim)) (opV e.op (e.args.map gU)):=by
 have hb:=bQ h.op;by_cases h6:e.op<=6
 ·have ha:=h.one h6;have hx:=(h.arg (i:=0) (by rw [ha];simp)).2;rw [ha]at hr ⊢;have:=Q9 hx hb.1 h6 hr;unfold opV;rw [if_pos h6];exact this
 ·have ha:=h.two zb;have hx:=(h.arg (i:=0) (by rw [ha];simp)).2;have hy:=(h.arg (i:=1) (by rw [ha];simp)).2;rw [ha]at hr ⊢;have:=Q8 hx hy zb hb.2.1 hb.2.2.2.1 hb.2.2.2.2 hr;unfold opV;rw [if_neg h6];exact this
theorem bi.calc{e:Ex}(h:bi e)(r:Int × Int × Int)(hR:(opV e.op (e.args.map gU)).2=r.2.2/\(r.2.2=0->(opV e.op (e.args.map gU)).1.n=r.1/\(opV e.op (e.args.map gU)).1.d=r.2.1))(hd:ag e.op (e.args.map Ex.dim)≠0) :
 eu e.op e.args=if r.2.2=0/\aV r.1 r.2.1 (ag e.op (e.args.map Ex.dim))=true then some (r.1,r.2.1,ag e.op (e.args.map Ex.dim))else none:=by
 unfold eu;rw [hR.1];by_cases h0:r.2.2=0
 ·obtain⟨e1,e2⟩:=hR.2 h0;rw [e1,e2];by_cases hk:aV r.1 r.2.1 (ag e.op (e.args.map Ex.dim))=true
  ·rw [if_pos ⟨h.op,h.lit,hd,h0,hk⟩,if_pos ⟨h0,hk⟩]
  ·rw [if_neg (fun c=>hk c.2.2.2.2),if_neg (fun c=>hk c.2)]
 ·rw [if_neg (fun c=>h0 c.2.2.2.1),if_neg (fun c=>h0 c.1)]
theorem bi.no{e:Ex}(hd:ag e.op (e.args.map Ex.dim)=0):eu e.op e.args=none:=by
 unfold eu;rw [if_neg (fun c=>c.2.2.1 hd)]
theorem ko(m:Int)(r:Int × Int × Int):(kr m r).2=r.2.2/\(r.2.2=0->(kr m r).1.n=r.1/\(kr m r).1.d=r.2.1):=by
 unfold kr;by_cases h:r.2.2=0
 ·simp [h,Val.num]
 ·simp [h]
theorem xB{a b c d:Int}(ha:aL a b=true)(hb:aL c d=true)(h:kT a b c d=0):a=c/\b=d:=by
 refine PD ha hb ?_;unfold kT at h
 (repeat' split at h)<;>omega
theorem CZ(e:Ex)(k:Nat)(hk:k<e.args.length){l:List (Ex × Go.Value)}(h:(e.args.take k).map aN=l.map (·.1))(ve:Go.Value):(e.args.take (k+1)).map aN=(l++[(aN (e.arg k),ve)]).map (·.1):=by
 rw [Ex.take_succ _ _ hk,map_append,h,map_append];rfl
theorem Ma(l:List Ins)(i:Nat)(h:i<l.length):(gG l)[i*4]? =some (.int .i64 (l.getD i default).op)/\(gG l)[i*4+1]? =some (.int .i64 (l.getD i default).a)/\(gG l)[i*4+2]? =some (.int .i64 (l.getD i default).n)/\(gG l)[i*4+3]? =some (.int .i64 (l.getD i default).d):=by
 induction l generalizing i with
 |nil=>simp at h
 |cons x r ih=>
  have e:gG (x::r)= .int .i64 x.op:: .int .i64 x.a:: .int .i64 x.n:: .int .i64 x.d::gG r:=rfl;rw [e]
  cases i with
  |zero=>exact⟨rfl,rfl,rfl,rfl⟩
  |succ i=>
   have:=ih i zy;rw [show(i+1)*4=i*4+1+1+1+1 by omega];exact this
def QQ(l:List Ins):Prop:=∀x∈l,I64 x.n/\I64 x.d
theorem kW.insAt{base:Nat}{w:World}{v:Value}{l:List Ins}(h:kW base w v l)(hl:l.length<=1000000)(hi:QQ l):rT w v l:=by
 obtain⟨a,c,rfl,hc,h0⟩:=rowForm3 h;refine⟨hl,a,c,rfl,h0.imp id ?_⟩;rintro⟨b,rfl,-,-,hlt⟩;refine⟨b,0,rfl,hlt,fun i hi2=>?_⟩;obtain⟨e1,e2,e3,e4⟩:=Ma l i hi2;have hr:w.ownsRow base 119 4 (.slice (some ⟨b,0,none⟩) l.length c) l.length (gG l):=h;rw [Nat.zero_add];refine⟨hi _ ?_,(hr.cellAt (i*4) zb).trans e1,(hr.cellAt (i*4+1) zb).trans e2,(hr.cellAt (i*4+2) zb).trans e3,(hr.cellAt (i*4+3) zb).trans e4⟩;rw [getD_eq_getElem?_getD,getElem?_eq_getElem hi2];exact getElem_mem hi2
theorem slRow_at{base:Nat}{w:World}{v:Value}{sl:List ByteArray}(h:w.ownsRow base 9 1 v sl.length (slV sl))(hl:sl.length<=1000)(hs:∀s∈sl,s.size<=maxLen):FC w v sl:=by
 obtain⟨a,c,rfl,hc,h0⟩:=rowForm3 h;refine⟨by omega,hs,a,c,hc,rfl,h0.imp id ?_⟩;rintro⟨b,rfl,hb,-,hlt⟩;refine⟨b,0,rfl,hlt,fun i hi=>?_⟩;rw [Nat.zero_add];exact(h.cellAt i zb).trans (slV_get sl i hi)
theorem Rn{n d:Int}(h:aL n d=true):I64 n/\I64 d:=by have:=aG h;unfold I64;omega
theorem wf_i64{m n i:Nat}{x:Ins}(h:wfF m n i x=true):I64 x.n/\I64 x.d:=by
 by_cases h1:x.op=1
 ·unfold wfF at h;rw [if_pos h1]at h;simp only [Bool.and_eq_true]at h;exact Rn h.2
 ·unfold wfF at h;rw [if_neg h1]at h;by_cases hz:¬(x.n=0/\x.d=0)
  ·rw [if_pos hz]at h;cases h
  ·have:x.n=0/\x.d=0:=by omega
   rw [this.1,this.2];unfold I64;omega
theorem ver_i64{l:List Ins}{sl:List ByteArray}{d:Int}(h:verA l sl=(d,0)):QQ l:=by
 obtain⟨F,D,C⟩:=Ky h;intro x hx;obtain⟨i,hi,rfl⟩:=mem_iff_getElem.1 hx;have:=wf_i64 (C.wf i hi);rw [getD_eq_getElem?_getD,getElem?_eq_getElem hi]at this;exact this
end Go.Proofs.YtfoefpoaomepbaaGreatDoor
