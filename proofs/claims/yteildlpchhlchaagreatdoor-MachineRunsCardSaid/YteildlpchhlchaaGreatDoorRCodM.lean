import Derived.Test.YteildlpchhlchaaGreatDoorRCodD
import Derived.ProofKit
import Derived.SizedLaws
set_option linter.all false
set_option maxHeartbeats 16000000
set_option maxRecDepth 1000000
namespace Go.Proofs.YteildlpchhlchaaGreatDoor
open Tryz List
def WfC(m n i:Nat)(c:List Ins):Prop:=∀k,k<c.length->wfF m n (i+k) (c.getD k default)=true
theorem WfC.nil{m n i:Nat}:WfC m n i []:=fun k hk=>by simp at hk
theorem WfC.app{m n i:Nat}{a b:List Ins}(ha:WfC m n i a)(hb:WfC m n (i+a.length) b):WfC m n i (a++b):=fun k hk=>by
 by_cases h:k<a.length
 ·have e:(a++b).getD k default=a.getD k default:=by simp [getD_eq_getElem?_getD,getElem?_append_left h]
  rw [e];exact ha k h
 ·have e:(a++b).getD k default=b.getD (k-a.length) default:=by simp [getD_eq_getElem?_getD,getElem?_append_right (Nat.le_of_not_lt h)]
  rw [length_append]at hk;have:=hb (k-a.length) zb;rw [show i+a.length+(k-a.length)=i+k by omega]at this;rw [e];exact this
theorem WfC.one{m n i:Nat}{x:Ins}(h:wfF m n i x=true):WfC m n i [x]:=fun k hk=>by
 obtain rfl:k=0:=by simp at hk;omega
 exact h
theorem WfC.cons{m n i:Nat}{x:Ins}{b:List Ins}(h:wfF m n i x=true)(hb:WfC m n (i+1) b):WfC m n i (x::b):=WfC.app (a:=[x]) (.one h) hb
structure Dfn where
 κ:ByteArray->Nat
 e:Ex
 k:Nat
 m:Int
 env:List (ByteArray × Int)
 ρ:List (ByteArray × Val)->List (ByteArray × Val):=id
def Dfn.code(d:Dfn)(i:Nat):List Ins:=codeF d.κ d.e i++[⟨4,(d.k:Int),0,0⟩]
def jq:List Dfn->Nat->List Ins
 | [],_=>[]
 |d::r,i=>d.code i++jq r (i+(d.code i).length)
def LF(g:Nat->List Ins)(ds:List Dfn)(i:Nat):List Ins:=g i++⟨22,((i+(g i).length+1+(jq ds (i+(g i).length+1)).length:Nat):Int),0,0⟩::jq ds (i+(g i).length+1)
def vV:List (ByteArray × Ex)->List (ByteArray × Int)->List (ByteArray × Int) × Int
 | [],env=>(env,0)
 |t::r,env=>
  if bE t.1.toList≠0\/ib t.1=false then([],5)
  else if env.any (fun p=>decide (p.1=t.1))=true then([],10)
  else if(eY env t.2).2≠0 then([],(eY env t.2).2)else vV r (env++[(t.1,(eY env t.2).1)])
structure qW(ls:List (ByteArray × Ex))(k:Nat)(env:List (ByteArray × Int)):Prop where
 all:vV ls []=vV (ls.drop k) env
 len:env.length=k
 nm:env.map Prod.fst=(ls.take k).map Prod.fst
theorem qW.zero(ls:List (ByteArray × Ex)):qW ls 0 []:=⟨rfl,rfl,by simp⟩
def Ai(env:List (ByteArray × Int))(t:ByteArray × Ex):Int:=
 if bE t.1.toList≠0\/ib t.1=false then 5 else if env.any (fun p=>decide (p.1=t.1))=true then 10 else(eY env t.2).2
theorem qW.drop{ls:List (ByteArray × Ex)}{k:Nat}(hk:k<ls.length):ls.drop k=ls.getD k default::ls.drop (k+1):=by
 rw [drop_eq_getElem_cons hk,getD_eq_getElem?_getD,getElem?_eq_getElem hk];rfl
theorem qW.next{ls:List (ByteArray × Ex)}{k:Nat}{env:List (ByteArray × Int)}(h:qW ls k env)(hk:k<ls.length)(hb:Ai env (ls.getD k default)=0):qW ls (k+1) (env++[((ls.getD k default).1,(eY env (ls.getD k default).2).1)]):=by
 refine⟨?_,by rw [length_append,h.len];rfl, ?_⟩
 ·rw [h.all,qW.drop hk,vV];unfold Ai at hb
  split at hb
  ·cases hb
  ·rename_i h1
   rw [if_neg h1]
   split at hb
   ·cases hb
   ·rename_i h2
    rw [if_neg h2,if_neg (by simpa using hb)]
 ·rw [map_append,h.nm,take_succ_eq_append_getElem hk,map_append];simp [getD_eq_getElem?_getD,getElem?_eq_getElem hk]
theorem qW.done{ls:List (ByteArray × Ex)}{env:List (ByteArray × Int)}(h:qW ls ls.length env):vV ls []=(env,0):=by
 rw [h.all,drop_length,vV]
theorem qW.dup{ls:List (ByteArray × Ex)}{k:Nat}{env:List (ByteArray × Int)}(h:qW ls k env)(hk:k<=ls.length)(s:ByteArray):env.any (fun p=>decide (p.1=s))=(List.range k).any fun j=>decide ((ls.getD j default).1=s):=by
 have h1:env.any (fun p=>decide (p.1=s))=(env.map Prod.fst).any fun x=>decide (x=s):=by rw [any_map];rfl
 rw [h1,h.nm,any_map,Bool.eq_iff_iff,any_eq_true,any_eq_true];constructor
 ·rintro⟨t,ht,hs⟩;obtain⟨j,hj,rfl⟩:=mem_take_iff_getElem.1 ht;have:j<ls.length:=by omega
  exact⟨j,mem_range.2 zb,by simpa [getD_eq_getElem?_getD,getElem?_eq_getElem this]using hs⟩
 ·rintro⟨j,hj,hs⟩;have hj:=mem_range.1 hj;have:j<ls.length:=by omega
  exact⟨ls[j],mem_take_iff_getElem.2 ⟨j,by omega,rfl⟩,by simpa [getD_eq_getElem?_getD,getElem?_eq_getElem this]using hs⟩
mutual
theorem tu{a b:List (ByteArray × Int)}:∀e:Ex,(∀s,jk s e=true->dQ b s=dQ a s)->aX b e=aX a e
 | .mk op n d m s l,h=>by
   rw [aX,aX,qC l (fun x hx=>h x (by rw [jk,hx,Bool.or_true]))];by_cases h2:op=2
   ·subst h2;rw [h s (by simp [jk])]
   ·exact Ar h2
theorem qC{a b:List (ByteArray × Int)}:∀l:List Ex,(∀s,ji s l=true->dQ b s=dQ a s)->bf b l=bf a l
 | [],_=>by rw [bf,bf]
 |e::r,h=>by rw [bf,bf,tu e (fun x hx=>h x (by rw [ji,hx,Bool.true_or])),qC r (fun x hx=>h x (by rw [ji,hx,Bool.or_true]))]
end
theorem Cz{op n d m:Int}{s:ByteArray}{l:List Ex}(h:aM (.mk op n d m s l)=true)(ho:op=1\/op=2\/op=3):l= []:=by
 rw [dn,Bool.and_eq_true]at h;have h1:(l.length:Int)=aY op:=of_decide_eq_true h.1;have h0:aY op=0:=by unfold aY;rw [if_pos zb]
 exact eq_nil_of_length_eq_zero zb
theorem EE{op n d m:Int}{s:ByteArray}{l:List Ex}(h:aM (.mk op n d m s l)=true)(h1:op≠1)(h2:op≠2)(h3:op≠3):aW l=true:=by
 rw [dn,Bool.and_eq_true]at h;have:=h.2;rw [if_neg (by exact h1),if_neg (by exact h2),if_neg (by exact h3),Bool.and_eq_true]at this;exact this.1
mutual
theorem lX{a:List (ByteArray × Int)}{s:ByteArray}:∀e:Ex,aM e=true->(aX a e).2=0->jk s e=true->(dQ a s).2=0
 | .mk op n d m nm l,hf,hi,hm=>by
   by_cases ho:op=1\/op=2\/op=3
   ·have hl:=Cz hf ho;subst hl;rw [jk,ji,Bool.or_false,Bool.and_eq_true]at hm;have h2:op=2:=of_decide_eq_true hm.1;have hs:nm=s:=of_decide_eq_true hm.2;subst h2 hs;rw [aX]at hi;exact hi
   ·have h1:op≠1:=fun h=>ho (.inl h);have h2:op≠2:=fun h=>ho (.inr (.inl h));have h3:op≠3:=fun h=>ho (.inr (.inr h));rw [jk,decide_eq_false h2,Bool.false_and,Bool.false_or]at hm;refine oN l (EE hf h1 h2 h3) ?_ hm;rw [aX]at hi;unfold eu at hi;rw [if_neg h1,if_neg h3,if_neg h2]at hi;by_cases hr:(bf a l).2=0
    ·exact hr
    ·rw [if_pos hr]at hi;exact hi
theorem oN{a:List (ByteArray × Int)}{s:ByteArray}:∀l:List Ex,aW l=true->(bf a l).2=0->ji s l=true->(dQ a s).2=0
 | [],_,_,hm=>by rw [ji]at hm;cases hm
 |e::r,hf,hi,hm=>by
  rw [aW,Bool.and_eq_true]at hf;rw [bf]at hi
  have h1:(aX a e).2=0:=by
   by_cases h:(aX a e).2=0
   ·exact h
   ·rw [if_pos h]at hi;exact hi
  have h2:(bf a r).2=0:=by
   rw [if_neg (by simpa using h1)]at hi;by_cases h:(bf a r).2=0
   ·exact h
   ·rw [if_pos h]at hi;exact hi
  rw [ji,Bool.or_eq_true]at hm;rcases hm with hm|hm
  ·exact lX e hf.1 h1 hm
  ·exact oN r hf.2 h2 hm
end
theorem kT{α:Type}(l:List (ByteArray × α))(p:ByteArray × α)(s:ByteArray):eP (l++[p]) s=if p.1=s then some p.2 else eP l s:=by
 unfold eP;rw [reverse_append,reverse_singleton,singleton_append,find?_cons];by_cases h:p.1=s
 ·rw [if_pos h,decide_eq_true h];rfl
 ·rw [if_neg h,decide_eq_false h]
structure pq(ls:List (ByteArray × Ex))(k:Nat)(env:List (ByteArray × Int)):Prop where
 len:env.length=k
 nm:∀i,i<k->(env.getD i default).1=(ls.getD i default).1
 ty:∀i,i<k->eY (env.take i) (ls.getD i default).2=((env.getD i default).2,0)
 word:∀i,i<k->bE (ls.getD i default).1.toList=0/\ib (ls.getD i default).1=true
 inj:∀i j,i<j->j<k->(ls.getD i default).1≠(ls.getD j default).1
theorem pq.zero(ls:List (ByteArray × Ex)):pq ls 0 []:=⟨rfl,fun i h=>by omega,fun i h=>by omega,fun i h=>by omega,fun i j _ h=>by omega⟩
theorem pW{α:Type}[Inhabited α]{l:List α}{x:α}{i:Nat}:(l++[x]).getD i default=if i<l.length then l.getD i default else if i=l.length then x else default:=by
 simp only [getD_eq_getElem?_getD];by_cases h:i<l.length
 ·rw [if_pos h,getElem?_append_left h]
 ·rw [if_neg h,getElem?_append_right zb];by_cases h2:i=l.length
  ·subst h2;simp
  ·rw [if_neg h2,getElem?_eq_none zg];rfl
theorem pq.next{ls:List (ByteArray × Ex)}{k:Nat}{env:List (ByteArray × Int)}(h:pq ls k env)(ha:qW ls k env)(hk:k<ls.length)(hb:Ai env (ls.getD k default)=0) :
 pq ls (k+1) (env++[((ls.getD k default).1,(eY env (ls.getD k default).2).1)]):=by
 have hl:=h.len;unfold Ai at hb
 split at hb
 ·cases hb
 rename_i h1
 split at hb
 ·cases hb
 rename_i h2
 have hdup:=ha.dup zb (ls.getD k default).1
 have hd:∀j,j<k->(ls.getD j default).1≠(ls.getD k default).1:=fun j hj he=>by
  rw [hdup]at h2;exact h2 (any_eq_true.2 ⟨j,mem_range.2 hj,decide_eq_true he⟩)
 refine⟨by rw [length_append,hl];rfl,fun i hi=>?_,fun i hi=>?_,fun i hi=>?_,fun i j hij hj=>?_⟩
 ·rw [pW];by_cases hik:i<k
  ·rw [if_pos zb];exact h.nm i hik
  ·rw [if_neg zb,if_pos zb];show(ls.getD k default).1=_;rw [show i=k by omega]
 ·by_cases hik:i<k
  ·rw [take_append_of_le_length zb,pW,if_pos zb];exact h.ty i hik
  ·obtain rfl:i=k:=by omega
   rw [take_append_of_le_length zb,take_of_length_le zb,pW,if_neg zb,if_pos hl.symm];exact Prod.ext rfl hb
 ·by_cases hik:i<k
  ·exact h.word i hik
  ·obtain rfl:i=k:=by omega
   exact⟨Decidable.byContradiction fun c=>h1 (.inl c),by
    cases hn:ib (ls.getD i default).1
    ·exact absurd (.inr hn) h1
    ·rfl⟩
 ·by_cases hjk:j<k
  ·exact h.inj i j hij hjk
  ·obtain rfl:j=k:=by omega
   exact hd i hij
theorem pq.last{ls:List (ByteArray × Ex)}{k:Nat}{env:List (ByteArray × Int)}(h:pq ls k env){j:Nat}:∀i,j<i->i<=k->eP (env.take i) (ls.getD j default).1=some (env.getD j default).2
 |0,hj,_=>by omega
 |i+1,hj,hi=>by
  have hl:=h.len;rw [take_succ_eq_append_getElem zb,kT];have hg:env[i]' zb=env.getD i default:=by rw [getD_eq_getElem?_getD,getElem?_eq_getElem zb];rfl
  rw [hg,h.nm i zb];by_cases hji:j=i
  ·subst hji;rw [if_pos rfl]
  ·rw [if_neg (fun e=>h.inj j i zb zb e.symm)];exact h.last i zb zb
theorem pq.none{ls:List (ByteArray × Ex)}{k:Nat}{env:List (ByteArray × Int)}(h:pq ls k env){s:ByteArray}:∀i,i<=k->(∀j,j<i->(ls.getD j default).1≠s)->eP (env.take i) s=none
 |0,_,_=>by simp [eP]
 |i+1,hi,hs=>by
  have hl:=h.len;rw [take_succ_eq_append_getElem zb,kT];have hg:env[i]' zb=env.getD i default:=by rw [getD_eq_getElem?_getD,getElem?_eq_getElem zb];rfl
  rw [hg,h.nm i zb,if_neg (hs i zb)];exact h.none i zb fun j hj=>hs j zb
theorem pq.named{ls:List (ByteArray × Ex)}{k:Nat}{env:List (ByteArray × Int)}(h:pq ls k env){s:ByteArray}{i:Nat}(hi:i<=k)(ht:(dQ (env.take i) s).2=0):bE s.toList≠0\/∃j,j<i/\(ls.getD j default).1=s:=by
 by_cases hs:bE s.toList=0
 ·refine .inr (Decidable.byContradiction fun c=>?_);have:=h.none (s:=s) i hi fun j hj e=>c ⟨j,hj,e⟩;unfold dQ at ht;rw [if_neg yp,this]at ht;cases ht
 ·exact .inl hs
structure uP(ls:List (ByteArray × Ex))(env:List (ByteArray × Int))(D:List Nat)(st:List (ByteArray × Val)):Prop where
 ok:∀p∈st,p.2.ok=true
 dom:∀j∈D,j<ls.length
 look:∀j∈D,eP (tQ st) (ls.getD j default).1=some (env.getD j default).2
 sub:∀j,j<ls.length->(st.any fun p=>decide (p.1=(ls.getD j default).1))=D.contains j
theorem uP.zero(ls:List (ByteArray × Ex))(env:List (ByteArray × Int)):uP ls env [] []:=⟨fun _ h=>zD,fun _ h=>zD,fun _ h=>zD,fun _ _=>rfl⟩
theorem wR(st:List (ByteArray × Val))(p:ByteArray × Val):tQ (st++[p])=tQ st++[(p.1,p.2.dim)]:=by simp [tQ]
theorem uP.push{ls:List (ByteArray × Ex)}{env:List (ByteArray × Int)}{D:List Nat}{st:List (ByteArray × Val)}(h:uP ls env D st)(hl:pq ls ls.length env){i:Nat}(hi:i<ls.length)(hD:D.contains i=false){x:Val}(hx:x.ok=true)(hd:x.dim=(env.getD i default).2) :
 uP ls env (D++[i]) (st++[((ls.getD i default).1,x)]):=by
 have ne:∀j,j<ls.length->j≠i->(ls.getD i default).1≠(ls.getD j default).1:=fun j hj hji=>by
  rcases Nat.lt_or_gt_of_ne hji with h1|h1
  ·exact fun e=>hl.inj j i h1 hi e.symm
  ·exact hl.inj i j h1 hj
 refine⟨fun p hp=>?_,fun j hj=>?_,fun j hj=>?_,fun j hj=>?_⟩
 ·rcases mem_append.1 hp with hp|hp
  ·exact h.ok p hp
  ·obtain rfl:p=_:=by simpa using hp
   exact hx
 ·rcases mem_append.1 hj with hj|hj
  ·exact h.dom j hj
  ·obtain rfl:j=i:=by simpa using hj
   exact hi
 ·rw [wR,kT];rcases mem_append.1 hj with hj|hj
  ·have hji:j≠i:=fun e=>by
    have hc:D.contains j=true:=contains_iff_mem.2 hj;rw [e,hD]at hc;cases hc
   rw [if_neg (ne j (h.dom j hj) hji)];exact h.look j hj
  ·obtain rfl:j=i:=by simpa using hj
   rw [if_pos rfl,hd]
 ·rw [any_append,h.sub j hj];by_cases hji:j=i
  ·subst hji;simp
  ·have:decide ((ls.getD i default).1=(ls.getD j default).1)=false:=decide_eq_false (ne j hj hji);rw [any_cons,any_nil,this,Bool.or_false,Bool.or_false,Bool.eq_iff_iff,contains_iff_mem,contains_iff_mem,mem_append];simp [hji]
theorem uP.other{ls:List (ByteArray × Ex)}{env:List (ByteArray × Int)}{D:List Nat}{st:List (ByteArray × Val)}(h:uP ls env D st)(hl:pq ls ls.length env){s:ByteArray}(hs:ib s=false){x:Val}(hx:x.ok=true):uP ls env D (st++[(s,x)]):=by
 have ne:∀j,j<ls.length->s≠(ls.getD j default).1:=fun j hj e=>by
  have:=(hl.word j hj).2;rw [<-e,hs]at this;cases this
 refine⟨fun p hp=>?_,h.dom,fun j hj=>?_,fun j hj=>?_⟩
 ·rcases mem_append.1 hp with hp|hp
  ·exact h.ok p hp
  ·obtain rfl:p=_:=by simpa using hp
   exact hx
 ·rw [wR,kT,if_neg (ne j (h.dom j hj))];exact h.look j hj
 ·rw [any_append,h.sub j hj];have:decide (s=(ls.getD j default).1)=false:=decide_eq_false (ne j hj);rw [any_cons,any_nil,this,Bool.or_false,Bool.or_false]
theorem uP.typed{ls:List (ByteArray × Ex)}{env:List (ByteArray × Int)}{D:List Nat}{st:List (ByteArray × Val)}(h:uP ls env D st)(hl:pq ls ls.length env){i:Nat}(hi:i<=ls.length){e:Ex}(hf:aM e=true)(ht:(aX (env.take i) e).2=0)
 (hD:∀j,j<i->jk (ls.getD j default).1 e=true->j∈D):aX (tQ st) e=aX (env.take i) e:=by
 refine tu e fun s hs=>?_;rcases hl.named hi (lX e hf ht hs)with h0|⟨j,hj,rfl⟩
 ·unfold dQ;rw [if_pos h0,if_pos h0]
 ·unfold dQ;rw [if_neg xL,if_neg xL,h.look j (hD j hj hs),hl.last i hj hi]
theorem Iu{α:Type}(f:Nat->ByteArray × α)(n:Nat)(hne:∀i,i<n->∀j,j<n->(f i).1=(f j).1->i=j){i:Nat}(hi:i<n):eP ((List.range n).map f) (f i).1=some (f i).2:=by
 induction n with
 |zero=>omega
 |succ n ih=>
  unfold eP;rw [range_succ,map_append,reverse_append,map_cons,map_nil,reverse_singleton,singleton_append,find?_cons];by_cases hin:i=n
  ·subst hin;simp
  ·have hf:decide ((f n).1=(f i).1)=false:=decide_eq_false (fun h=>hin (hne n zb i zb h).symm);rw [hf];exact ih (fun a ha b hb=>hne a zb b zb) zb
def jQ(l:List (List Int))(i:Nat):Int:=1+((l.getD i []).length:Int) % 4
def bM(l:List (List Int))(i:Nat):List (ByteArray × Int):=(List.range i).map fun j=>(eQ j,jQ l j)
def aD(i:Nat):List ByteArray:=(List.range i).map eQ
def kW(l:List (List Int))(i:Nat):Dfn:={κ:=slK (aD i),e:=dZ (l.getD i []) (bM l i) (jQ l i),k:=i,m:=jQ l i,env:=bM l i}
theorem iK(l:List (List Int))(i:Nat):1<=jQ l i/\jQ l i<=4:=by unfold jQ;omega
theorem Og:∀j,j<5->ib (eQ j)=true/\bE (eQ j).toList=0/\isWord (eQ j)=true:=by decide+kernel
theorem K5:∀i,i<5->∀j,j<5->eQ i=eQ j->i=j:=by decide+kernel
theorem OZ{l:List (List Int)}{i:Nat}(hi:i<=5):Dq (bM l i):=fun p hp=>by
 obtain⟨j,hj,rfl⟩:=mem_map.1 hp;have hj:=mem_range.1 hj;obtain⟨h1,h2,-⟩:=Og j zb;exact⟨h2,h1,(iK l j).1,(iK l j).2,Iu (fun j=>(eQ j,jQ l j)) i (fun a ha b hb e=>K5 a zb b zb e) hj⟩
theorem IX{l:List (List Int)}{i:Nat}(hi:i<=5){s:ByteArray}(h0:bE s.toList=0)(h:(dQ (bM l i) s).2=0):∃j,j<i/\s=eQ j/\(dQ (bM l i) s).1=jQ l j:=by
 unfold dQ at *;rw [if_neg yJ]at *
 cases e:eP (bM l i) s with
 |none=>rw [e]at h;simp at h
 |some m=>
  unfold eP at e;obtain⟨p,hp,hpm⟩:=Option.map_eq_some_iff.1 e;have h1:=mem_reverse.1 (mem_of_find?_eq_some hp);have h2:=find?_some hp;simp only [decide_eq_true_eq]at h2;obtain⟨j,hj,rfl⟩:=mem_map.1 h1;exact⟨j,mem_range.1 hj,h2.symm,hpm.symm⟩
theorem Bn{κ:ByteArray->Nat}:∀(xs:List Ex),(∀a∈xs,∀i,(codeF κ a i).length<=3*a.size)->∀i,(gN (di κ xs) i).length<=3*Ex.sizes xs
 | [],_,_=>Nat.zero_le _
 |a::r,h,i=>by
  simp only [di,gN,length_append,Ex.sizes];have h1:=h a ze i;have h2:=Bn r (fun b hb=>h b (mem_cons_of_mem _ hb)) (i+(codeF κ a i).length);omega
theorem AB{A B C:Nat->List Ins}{a b c:Nat}(hA:∀i,(A i).length<=a)(hB:∀i,(B i).length<=b)(hC:∀i,(C i).length<=c)(i:Nat):(brC A B C i).length<=a+b+c+2:=by
 unfold brC;simp only [length_append,length_cons];have h1:=hA i;have h2:=hB (i+(A i).length+1);have h3:=hC (i+(A i).length+1+(B (i+(A i).length+1)).length+1);omega
theorem um{κ:ByteArray->Nat}(xs:List Ex)(h:∀a∈xs,∀i,(codeF κ a i).length<=3*a.size)(k i:Nat):((di κ xs).getD k (fun _=>[]) i).length<=3*((xs.getD k default).size):=by
 induction xs generalizing k with
 |nil=>simp [di]
 |cons a r ih=>
  cases k with
  |zero=>exact h a ze i
  |succ k=>exact ih (fun b hb=>h b (mem_cons_of_mem _ hb)) k
theorem Bh(xs:List Ex)(h:xs.length=3):(xs.getD 0 default).size+(xs.getD 1 default).size+(xs.getD 2 default).size=Ex.sizes xs:=by
 match xs,h with
 | [a,b,c],_=>simp [Ex.sizes];omega
theorem vC(xs:List Ex)(h:xs.length=2):(xs.getD 0 default).size+(xs.getD 1 default).size=Ex.sizes xs:=by
 match xs,h with
 | [a,b],_=>simp [Ex.sizes]
mutual
theorem CU{κ:ByteArray->Nat}:∀e:Ex,aM e=true->∀i,(codeF κ e i).length<=3*e.size
 | .mk op n d m s xs,hf,i=>by
   rw [aM,Bool.and_eq_true,decide_eq_true_eq]at hf;obtain⟨hlen,hf⟩:=hf;rw [codeF,Ex.size];unfold oW;by_cases h1:op=1
   ·rw [if_pos h1];simp;omega
   by_cases h2:op=2
   ·rw [if_neg h1,if_pos h2];simp;omega
   by_cases h3:op=3
   ·rw [if_neg h1,if_neg h2,if_pos h3];simp;omega
   rw [if_neg h1,if_neg h2,if_neg h3]at hf ⊢;have hx:=wU (κ:=κ) xs (Bool.and_eq_true_iff.1 hf).1;have a0:=fun i=>um xs hx 0 i;have a1:=fun i=>um xs hx 1 i;have a2:=fun i=>um xs hx 2 i;by_cases h17:op=17
   ·rw [if_pos h17];have hs:=vC xs (by rw [h17]at hlen;simp [aY]at hlen;omega);have:=AB a0 a1 (C:=fun _=>[⟨24,0,0,0⟩]) (c:=1) (fun _=>Nat.le_refl 1) i;omega
   by_cases h18:op=18
   ·rw [if_neg h17,if_pos h18];have hs:=vC xs (by rw [h18]at hlen;simp [aY]at hlen;omega);have:=AB a0 (B:=fun _=>[⟨23,0,0,0⟩]) (b:=1) (fun _=>Nat.le_refl 1) a1 i;omega
   by_cases h21:op=21
   ·rw [if_neg h17,if_neg h18,if_pos h21];have hs:=Bh xs (by rw [h21]at hlen;simp [aY]at hlen;omega);have:=AB a0 a1 a2 i;omega
   rw [if_neg h17,if_neg h18,if_neg h21,length_append,length_singleton];have:=Bn xs hx i;omega
theorem wU{κ:ByteArray->Nat}:∀xs:List Ex,aW xs=true->∀a∈xs,∀i,(codeF κ a i).length<=3*a.size
 | [],_,_,ha,_=>by cases ha
 |e::r,hf,a,ha,i=>by
  rw [aW,Bool.and_eq_true]at hf;rcases mem_cons.1 ha with h|ha
  ·rw [h];exact CU e hf.1 i
  ·exact wU r hf.2 a ha i
end
def vR(l:List (List Int))(g:List Int):List Ins:=
 if g= []\/l= []then jq ((range' 0 (min l.length 5)).map (kW l)) 0
 else jq ((range' 0 (min l.length 5-1)).map (kW l)) 0++LF (codeF (slK (aD (min l.length 5-1))) (dZ g (bM l (min l.length 5-1)) 1)) [kW l (min l.length 5-1)] (jq ((range' 0 (min l.length 5-1)).map (kW l)) 0).length
theorem mK{l:List (List Int)}{i:Nat}(hi:i<=5)(zs:List Int){dim:Int}(h1:1<=dim)(h4:dim<=4):aM (dZ zs (bM l i) dim)=true/\aX (bM l i) (dZ zs (bM l i) dim)=(dim,0)/\(dZ zs (bM l i) dim).depth<=10/\(dZ zs (bM l i) dim).size<=60:=by
 obtain⟨g1,g2⟩:=DD zs (OZ (l:=l) hi) h1 h4;unfold eF at g2;simp only [Bool.and_eq_true,decide_eq_true_eq]at g2;exact⟨g1.1,g1.2,g2.1.1,g2.1.2⟩
open Go.RowKit
theorem lg(s:ByteArray)(w:World):Calls prog 100 #[.string s] w fun e w'=>e= .returned (.tuple #[.int .i64 (bE s.toList),.bool (decide (bE s.toList≠0))])/\w=w':=by
 go_enter func100,ntmps100
 exact RD
theorem ret_int{a b:Int}(h:a=b):Ending.returned (.int .i64 a)= .returned (.int .i64 b):=by rw [h]
def fQ(r:Int)(w:World)(e:Ending)(w':World):Prop:=(∃m,e= .returned (.tuple #[.int .i64 m,.bool (decide (r≠0))])/\(r≠0->m=r))/\w.Grows w'
def fe(r:Int)(w:World)(e:Ending)(w':World):Prop:=e= .returned (.int .i64 r)/\w.Grows w'
theorem Sa{m r:Int}{q:Bool}{w w':World}(h1:q=decide (r≠0))(h2:r≠0->m=r)(hg:w.Grows w'):fQ r w (.returned (.tuple #[.int .i64 m,.bool q])) w':=⟨⟨m,by rw [h1],h2⟩,hg⟩
theorem R9{m r:Int}{w w':World}(h:m=r)(hg:w.Grows w'):fe r w (.returned (.int .i64 m)) w':=⟨by rw [h],hg⟩

theorem Qx(x:Int)(b off cap:Nat)(w:World)(c0:w.cell? ⟨b,off,none⟩=some (.int .i64 x))(hX:1<=x):Calls prog 157 #[.int .i64 4,.slice (some ⟨b,off,none⟩) 1 cap] w (fQ (ag 4 [x]) w):=by
 have HR:Hid (ag 4 [x]=ag 4 [x]):=yq rfl;generalize hR:ag 4 [x]=R at HR ⊢;exact Qb
theorem Qw(x:Int)(b off cap:Nat)(w:World)(c0:w.cell? ⟨b,off,none⟩=some (.int .i64 x))(hX:1<=x):Calls prog 157 #[.int .i64 5,.slice (some ⟨b,off,none⟩) 1 cap] w (fQ (ag 5 [x]) w):=by
 have HR:Hid (ag 5 [x]=ag 5 [x]):=yq rfl;generalize hR:ag 5 [x]=R at HR ⊢;exact Qb
theorem Qv(x:Int)(b off cap:Nat)(w:World)(c0:w.cell? ⟨b,off,none⟩=some (.int .i64 x))(hX:1<=x):Calls prog 157 #[.int .i64 6,.slice (some ⟨b,off,none⟩) 1 cap] w (fQ (ag 6 [x]) w):=by
 have HR:Hid (ag 6 [x]=ag 6 [x]):=yq rfl;generalize hR:ag 6 [x]=R at HR ⊢;exact Qb
theorem Qu(x y:Int)(b off cap:Nat)(w:World)(c0:w.cell? ⟨b,off,none⟩=some (.int .i64 x))(c1:w.cell? ⟨b,off+1,none⟩=some (.int .i64 y))(hX:1<=x/\1<=y):Calls prog 157 #[.int .i64 7,.slice (some ⟨b,off,none⟩) 2 cap] w (fQ (ag 7 [x,y]) w):=by
 have HR:Hid (ag 7 [x,y]=ag 7 [x,y]):=yq rfl;generalize hR:ag 7 [x,y]=R at HR ⊢;exact rz5
theorem Qt(x y:Int)(b off cap:Nat)(w:World)(c0:w.cell? ⟨b,off,none⟩=some (.int .i64 x))(c1:w.cell? ⟨b,off+1,none⟩=some (.int .i64 y))(hX:1<=x/\1<=y):Calls prog 157 #[.int .i64 8,.slice (some ⟨b,off,none⟩) 2 cap] w (fQ (ag 8 [x,y]) w):=by
 have HR:Hid (ag 8 [x,y]=ag 8 [x,y]):=yq rfl;generalize hR:ag 8 [x,y]=R at HR ⊢;exact rz5
theorem Qs(x y:Int)(b off cap:Nat)(w:World)(c0:w.cell? ⟨b,off,none⟩=some (.int .i64 x))(c1:w.cell? ⟨b,off+1,none⟩=some (.int .i64 y))(hX:1<=x/\1<=y):Calls prog 157 #[.int .i64 9,.slice (some ⟨b,off,none⟩) 2 cap] w (fQ (ag 9 [x,y]) w):=by
 have HR:Hid (ag 9 [x,y]=ag 9 [x,y]):=yq rfl;generalize hR:ag 9 [x,y]=R at HR ⊢;clear HR;have HR:=yq hR;have HX:=yq hX;clear hR hX
 go_enter func157,ntmps157
 by_cases e1:x=2
 focus
  subst e1
 rotate_left
 focus
  have f1:(x==2)=false:=by simpa using e1
  have g1:(2==x)=false:=by simpa using fun h=>e1 h.symm
 rotate_left
 all_goals
  by_cases e2:y=2
  focus
   subst e2
  rotate_left
  focus
   have f2:(y==2)=false:=by simpa using e2
   have g2:(2==y)=false:=by simpa using fun h=>e2 h.symm
  rotate_left
  all_goals
   exact rz0
theorem NK(x y:Int)(b off cap:Nat)(w:World)(c0:w.cell? ⟨b,off,none⟩=some (.int .i64 x))(c1:w.cell? ⟨b,off+1,none⟩=some (.int .i64 y))(hX:1<=x/\1<=y):Calls prog 157 #[.int .i64 10,.slice (some ⟨b,off,none⟩) 2 cap] w (fQ (ag 10 [x,y]) w):=by
 have HR:Hid (ag 10 [x,y]=ag 10 [x,y]):=yq rfl;generalize hR:ag 10 [x,y]=R at HR ⊢;clear HR;have HR:=yq hR;have HX:=yq hX;clear hR hX
 go_enter func157,ntmps157
 by_cases e1:y=2
 ·subst e1;by_cases e2:x=2
  focus
   subst e2
  rotate_left
  focus
   have f2:(x==2)=false:=by simpa using e2
   have g2:(2==x)=false:=by simpa using fun h=>e2 h.symm
  rotate_left
  all_goals
   exact rz0
 ·have f1:(y==2)=false:=by simpa using e1
  have g1:(2==y)=false:=by simpa using fun h=>e1 h.symm
  by_cases e2:x=y
  focus
   subst e2
  rotate_left
  focus
   have f2:(x==y)=false:=by simpa using e2
   have g2:(y==x)=false:=by simpa using fun h=>e2 h.symm
  rotate_left
  all_goals
   exact rz0
theorem NJ(x y:Int)(b off cap:Nat)(w:World)(c0:w.cell? ⟨b,off,none⟩=some (.int .i64 x))(c1:w.cell? ⟨b,off+1,none⟩=some (.int .i64 y))(hX:1<=x/\1<=y):Calls prog 157 #[.int .i64 11,.slice (some ⟨b,off,none⟩) 2 cap] w (fQ (ag 11 [x,y]) w):=by
 have HR:Hid (ag 11 [x,y]=ag 11 [x,y]):=yq rfl;generalize hR:ag 11 [x,y]=R at HR ⊢;exact rz5
theorem NI(x y:Int)(b off cap:Nat)(w:World)(c0:w.cell? ⟨b,off,none⟩=some (.int .i64 x))(c1:w.cell? ⟨b,off+1,none⟩=some (.int .i64 y))(hX:1<=x/\1<=y):Calls prog 157 #[.int .i64 12,.slice (some ⟨b,off,none⟩) 2 cap] w (fQ (ag 12 [x,y]) w):=by
 have HR:Hid (ag 12 [x,y]=ag 12 [x,y]):=yq rfl;generalize hR:ag 12 [x,y]=R at HR ⊢;exact rz5
theorem NH(x y:Int)(b off cap:Nat)(w:World)(c0:w.cell? ⟨b,off,none⟩=some (.int .i64 x))(c1:w.cell? ⟨b,off+1,none⟩=some (.int .i64 y))(hX:1<=x/\1<=y):Calls prog 157 #[.int .i64 13,.slice (some ⟨b,off,none⟩) 2 cap] w (fQ (ag 13 [x,y]) w):=by
 have HR:Hid (ag 13 [x,y]=ag 13 [x,y]):=yq rfl;generalize hR:ag 13 [x,y]=R at HR ⊢;exact rz5
theorem NG(x y:Int)(b off cap:Nat)(w:World)(c0:w.cell? ⟨b,off,none⟩=some (.int .i64 x))(c1:w.cell? ⟨b,off+1,none⟩=some (.int .i64 y))(hX:1<=x/\1<=y):Calls prog 157 #[.int .i64 14,.slice (some ⟨b,off,none⟩) 2 cap] w (fQ (ag 14 [x,y]) w):=by
 have HR:Hid (ag 14 [x,y]=ag 14 [x,y]):=yq rfl;generalize hR:ag 14 [x,y]=R at HR ⊢;exact rz5
theorem NF(x y:Int)(b off cap:Nat)(w:World)(c0:w.cell? ⟨b,off,none⟩=some (.int .i64 x))(c1:w.cell? ⟨b,off+1,none⟩=some (.int .i64 y))(hX:1<=x/\1<=y):Calls prog 157 #[.int .i64 15,.slice (some ⟨b,off,none⟩) 2 cap] w (fQ (ag 15 [x,y]) w):=by
 have HR:Hid (ag 15 [x,y]=ag 15 [x,y]):=yq rfl;generalize hR:ag 15 [x,y]=R at HR ⊢;exact rz5
theorem NE(x y:Int)(b off cap:Nat)(w:World)(c0:w.cell? ⟨b,off,none⟩=some (.int .i64 x))(c1:w.cell? ⟨b,off+1,none⟩=some (.int .i64 y))(hX:1<=x/\1<=y):Calls prog 157 #[.int .i64 16,.slice (some ⟨b,off,none⟩) 2 cap] w (fQ (ag 16 [x,y]) w):=by
 have HR:Hid (ag 16 [x,y]=ag 16 [x,y]):=yq rfl;generalize hR:ag 16 [x,y]=R at HR ⊢;exact rz5
theorem NC(x y:Int)(b off cap:Nat)(w:World)(c0:w.cell? ⟨b,off,none⟩=some (.int .i64 x))(c1:w.cell? ⟨b,off+1,none⟩=some (.int .i64 y))(hX:1<=x/\1<=y):Calls prog 157 #[.int .i64 17,.slice (some ⟨b,off,none⟩) 2 cap] w (fQ (ag 17 [x,y]) w):=by
 have HR:Hid (ag 17 [x,y]=ag 17 [x,y]):=yq rfl;generalize hR:ag 17 [x,y]=R at HR ⊢;exact Qd
theorem NA(x y:Int)(b off cap:Nat)(w:World)(c0:w.cell? ⟨b,off,none⟩=some (.int .i64 x))(c1:w.cell? ⟨b,off+1,none⟩=some (.int .i64 y))(hX:1<=x/\1<=y):Calls prog 157 #[.int .i64 18,.slice (some ⟨b,off,none⟩) 2 cap] w (fQ (ag 18 [x,y]) w):=by
 have HR:Hid (ag 18 [x,y]=ag 18 [x,y]):=yq rfl;generalize hR:ag 18 [x,y]=R at HR ⊢;exact Qd
theorem Nz(x y:Int)(b off cap:Nat)(w:World)(c0:w.cell? ⟨b,off,none⟩=some (.int .i64 x))(c1:w.cell? ⟨b,off+1,none⟩=some (.int .i64 y))(hX:1<=x/\1<=y):Calls prog 157 #[.int .i64 19,.slice (some ⟨b,off,none⟩) 2 cap] w (fQ (ag 19 [x,y]) w):=by
 have HR:Hid (ag 19 [x,y]=ag 19 [x,y]):=yq rfl;generalize hR:ag 19 [x,y]=R at HR ⊢;exact rz5
theorem Ny(x y:Int)(b off cap:Nat)(w:World)(c0:w.cell? ⟨b,off,none⟩=some (.int .i64 x))(c1:w.cell? ⟨b,off+1,none⟩=some (.int .i64 y))(hX:1<=x/\1<=y):Calls prog 157 #[.int .i64 20,.slice (some ⟨b,off,none⟩) 2 cap] w (fQ (ag 20 [x,y]) w):=by
 have HR:Hid (ag 20 [x,y]=ag 20 [x,y]):=yq rfl;generalize hR:ag 20 [x,y]=R at HR ⊢;exact rz5
theorem Nw(x y z:Int)(b off cap:Nat)(w:World)(c0:w.cell? ⟨b,off,none⟩=some (.int .i64 x))(c1:w.cell? ⟨b,off+1,none⟩=some (.int .i64 y))(c2:w.cell? ⟨b,off+2,none⟩=some (.int .i64 z))(hX:1<=x/\1<=y/\1<=z):Calls prog 157 #[.int .i64 21,.slice (some ⟨b,off,none⟩) 3 cap] w (fQ (ag 21 [x,y,z]) w):=by
 have HR:Hid (ag 21 [x,y,z]=ag 21 [x,y,z]):=yq rfl;generalize hR:ag 21 [x,y,z]=R at HR ⊢;exact Qd
theorem Ku(x:Int)(b off cap:Nat)(w:World)(c0:w.cell? ⟨b,off,none⟩=some (.int .i64 x))(hX:1<=x):Calls prog 90 #[.int .i64 4,.slice (some ⟨b,off,none⟩) 1 cap] w (fe (ag 4 [x]) w):=by
 have HR:Hid (ag 4 [x]=ag 4 [x]):=yq rfl;generalize hR:ag 4 [x]=R at HR ⊢;exact Qa
theorem Kt(x:Int)(b off cap:Nat)(w:World)(c0:w.cell? ⟨b,off,none⟩=some (.int .i64 x))(hX:1<=x):Calls prog 90 #[.int .i64 5,.slice (some ⟨b,off,none⟩) 1 cap] w (fe (ag 5 [x]) w):=by
 have HR:Hid (ag 5 [x]=ag 5 [x]):=yq rfl;generalize hR:ag 5 [x]=R at HR ⊢;exact Qa
theorem Kr(x:Int)(b off cap:Nat)(w:World)(c0:w.cell? ⟨b,off,none⟩=some (.int .i64 x))(hX:1<=x):Calls prog 90 #[.int .i64 6,.slice (some ⟨b,off,none⟩) 1 cap] w (fe (ag 6 [x]) w):=by
 have HR:Hid (ag 6 [x]=ag 6 [x]):=yq rfl;generalize hR:ag 6 [x]=R at HR ⊢;exact Qa
theorem Kq(x y:Int)(b off cap:Nat)(w:World)(c0:w.cell? ⟨b,off,none⟩=some (.int .i64 x))(c1:w.cell? ⟨b,off+1,none⟩=some (.int .i64 y))(hX:1<=x/\1<=y):Calls prog 90 #[.int .i64 7,.slice (some ⟨b,off,none⟩) 2 cap] w (fe (ag 7 [x,y]) w):=by
 have HR:Hid (ag 7 [x,y]=ag 7 [x,y]):=yq rfl;generalize hR:ag 7 [x,y]=R at HR ⊢;exact rz6
theorem Ko(x y:Int)(b off cap:Nat)(w:World)(c0:w.cell? ⟨b,off,none⟩=some (.int .i64 x))(c1:w.cell? ⟨b,off+1,none⟩=some (.int .i64 y))(hX:1<=x/\1<=y):Calls prog 90 #[.int .i64 8,.slice (some ⟨b,off,none⟩) 2 cap] w (fe (ag 8 [x,y]) w):=by
 have HR:Hid (ag 8 [x,y]=ag 8 [x,y]):=yq rfl;generalize hR:ag 8 [x,y]=R at HR ⊢;exact rz6
theorem Kn(x y:Int)(b off cap:Nat)(w:World)(c0:w.cell? ⟨b,off,none⟩=some (.int .i64 x))(c1:w.cell? ⟨b,off+1,none⟩=some (.int .i64 y))(hX:1<=x/\1<=y):Calls prog 90 #[.int .i64 9,.slice (some ⟨b,off,none⟩) 2 cap] w (fe (ag 9 [x,y]) w):=by
 have HR:Hid (ag 9 [x,y]=ag 9 [x,y]):=yq rfl;generalize hR:ag 9 [x,y]=R at HR ⊢;clear HR;have HR:=yq hR;have HX:=yq hX;clear hR hX
 go_enter func90,ntmps90
 by_cases e1:x=2
 focus
  subst e1
 rotate_left
 focus
  have f1:(x==2)=false:=by simpa using e1
  have g1:(2==x)=false:=by simpa using fun h=>e1 h.symm
 rotate_left
 all_goals
  by_cases e2:y=2
  focus
   subst e2
  rotate_left
  focus
   have f2:(y==2)=false:=by simpa using e2
   have g2:(2==y)=false:=by simpa using fun h=>e2 h.symm
  rotate_left
  all_goals
   exact rz1
theorem FP(x y:Int)(b off cap:Nat)(w:World)(c0:w.cell? ⟨b,off,none⟩=some (.int .i64 x))(c1:w.cell? ⟨b,off+1,none⟩=some (.int .i64 y))(hX:1<=x/\1<=y):Calls prog 90 #[.int .i64 10,.slice (some ⟨b,off,none⟩) 2 cap] w (fe (ag 10 [x,y]) w):=by
 have HR:Hid (ag 10 [x,y]=ag 10 [x,y]):=yq rfl;generalize hR:ag 10 [x,y]=R at HR ⊢;clear HR;have HR:=yq hR;have HX:=yq hX;clear hR hX
 go_enter func90,ntmps90
 by_cases e1:y=2
 ·subst e1;by_cases e2:x=2
  focus
   subst e2
  rotate_left
  focus
   have f2:(x==2)=false:=by simpa using e2
   have g2:(2==x)=false:=by simpa using fun h=>e2 h.symm
  rotate_left
  all_goals
   exact rz1
 ·have f1:(y==2)=false:=by simpa using e1
  have g1:(2==y)=false:=by simpa using fun h=>e1 h.symm
  by_cases e2:x=y
  focus
   subst e2
  rotate_left
  focus
   have f2:(x==y)=false:=by simpa using e2
   have g2:(y==x)=false:=by simpa using fun h=>e2 h.symm
  rotate_left
  all_goals
   exact rz1
theorem FO(x y:Int)(b off cap:Nat)(w:World)(c0:w.cell? ⟨b,off,none⟩=some (.int .i64 x))(c1:w.cell? ⟨b,off+1,none⟩=some (.int .i64 y))(hX:1<=x/\1<=y):Calls prog 90 #[.int .i64 11,.slice (some ⟨b,off,none⟩) 2 cap] w (fe (ag 11 [x,y]) w):=by
 have HR:Hid (ag 11 [x,y]=ag 11 [x,y]):=yq rfl;generalize hR:ag 11 [x,y]=R at HR ⊢;exact rz6
theorem FN(x y:Int)(b off cap:Nat)(w:World)(c0:w.cell? ⟨b,off,none⟩=some (.int .i64 x))(c1:w.cell? ⟨b,off+1,none⟩=some (.int .i64 y))(hX:1<=x/\1<=y):Calls prog 90 #[.int .i64 12,.slice (some ⟨b,off,none⟩) 2 cap] w (fe (ag 12 [x,y]) w):=by
 have HR:Hid (ag 12 [x,y]=ag 12 [x,y]):=yq rfl;generalize hR:ag 12 [x,y]=R at HR ⊢;exact rz6
theorem FM(x y:Int)(b off cap:Nat)(w:World)(c0:w.cell? ⟨b,off,none⟩=some (.int .i64 x))(c1:w.cell? ⟨b,off+1,none⟩=some (.int .i64 y))(hX:1<=x/\1<=y):Calls prog 90 #[.int .i64 13,.slice (some ⟨b,off,none⟩) 2 cap] w (fe (ag 13 [x,y]) w):=by
 have HR:Hid (ag 13 [x,y]=ag 13 [x,y]):=yq rfl;generalize hR:ag 13 [x,y]=R at HR ⊢;exact rz6
theorem FL(x y:Int)(b off cap:Nat)(w:World)(c0:w.cell? ⟨b,off,none⟩=some (.int .i64 x))(c1:w.cell? ⟨b,off+1,none⟩=some (.int .i64 y))(hX:1<=x/\1<=y):Calls prog 90 #[.int .i64 14,.slice (some ⟨b,off,none⟩) 2 cap] w (fe (ag 14 [x,y]) w):=by
 have HR:Hid (ag 14 [x,y]=ag 14 [x,y]):=yq rfl;generalize hR:ag 14 [x,y]=R at HR ⊢;exact rz6
theorem FK(x y:Int)(b off cap:Nat)(w:World)(c0:w.cell? ⟨b,off,none⟩=some (.int .i64 x))(c1:w.cell? ⟨b,off+1,none⟩=some (.int .i64 y))(hX:1<=x/\1<=y):Calls prog 90 #[.int .i64 15,.slice (some ⟨b,off,none⟩) 2 cap] w (fe (ag 15 [x,y]) w):=by
 have HR:Hid (ag 15 [x,y]=ag 15 [x,y]):=yq rfl;generalize hR:ag 15 [x,y]=R at HR ⊢;exact rz6
theorem FJ(x y:Int)(b off cap:Nat)(w:World)(c0:w.cell? ⟨b,off,none⟩=some (.int .i64 x))(c1:w.cell? ⟨b,off+1,none⟩=some (.int .i64 y))(hX:1<=x/\1<=y):Calls prog 90 #[.int .i64 16,.slice (some ⟨b,off,none⟩) 2 cap] w (fe (ag 16 [x,y]) w):=by
 have HR:Hid (ag 16 [x,y]=ag 16 [x,y]):=yq rfl;generalize hR:ag 16 [x,y]=R at HR ⊢;exact rz6
theorem FI(x y:Int)(b off cap:Nat)(w:World)(c0:w.cell? ⟨b,off,none⟩=some (.int .i64 x))(c1:w.cell? ⟨b,off+1,none⟩=some (.int .i64 y))(hX:1<=x/\1<=y):Calls prog 90 #[.int .i64 17,.slice (some ⟨b,off,none⟩) 2 cap] w (fe (ag 17 [x,y]) w):=by
 have HR:Hid (ag 17 [x,y]=ag 17 [x,y]):=yq rfl;generalize hR:ag 17 [x,y]=R at HR ⊢;exact Qc
theorem FH(x y:Int)(b off cap:Nat)(w:World)(c0:w.cell? ⟨b,off,none⟩=some (.int .i64 x))(c1:w.cell? ⟨b,off+1,none⟩=some (.int .i64 y))(hX:1<=x/\1<=y):Calls prog 90 #[.int .i64 18,.slice (some ⟨b,off,none⟩) 2 cap] w (fe (ag 18 [x,y]) w):=by
 have HR:Hid (ag 18 [x,y]=ag 18 [x,y]):=yq rfl;generalize hR:ag 18 [x,y]=R at HR ⊢;exact Qc
theorem FE(x y:Int)(b off cap:Nat)(w:World)(c0:w.cell? ⟨b,off,none⟩=some (.int .i64 x))(c1:w.cell? ⟨b,off+1,none⟩=some (.int .i64 y))(hX:1<=x/\1<=y):Calls prog 90 #[.int .i64 19,.slice (some ⟨b,off,none⟩) 2 cap] w (fe (ag 19 [x,y]) w):=by
 have HR:Hid (ag 19 [x,y]=ag 19 [x,y]):=yq rfl;generalize hR:ag 19 [x,y]=R at HR ⊢;exact rz6
theorem FD(x y:Int)(b off cap:Nat)(w:World)(c0:w.cell? ⟨b,off,none⟩=some (.int .i64 x))(c1:w.cell? ⟨b,off+1,none⟩=some (.int .i64 y))(hX:1<=x/\1<=y):Calls prog 90 #[.int .i64 20,.slice (some ⟨b,off,none⟩) 2 cap] w (fe (ag 20 [x,y]) w):=by
 have HR:Hid (ag 20 [x,y]=ag 20 [x,y]):=yq rfl;generalize hR:ag 20 [x,y]=R at HR ⊢;exact rz6
theorem Nv(x y z:Int)(b off cap:Nat)(w:World)(c0:w.cell? ⟨b,off,none⟩=some (.int .i64 x))(c1:w.cell? ⟨b,off+1,none⟩=some (.int .i64 y))(c2:w.cell? ⟨b,off+2,none⟩=some (.int .i64 z))(hX:1<=x/\1<=y/\1<=z):Calls prog 90 #[.int .i64 21,.slice (some ⟨b,off,none⟩) 3 cap] w (fe (ag 21 [x,y,z]) w):=by
 have HR:Hid (ag 21 [x,y,z]=ag 21 [x,y,z]):=yq rfl;generalize hR:ag 21 [x,y,z]=R at HR ⊢;exact Qc
theorem Nu{op:Int}{d:List Int}(h:∀x∈d,1<=x/\x<=4)(hr:ag op d≠0):1<=ag op d/\ag op d<=4:=by
 have g:∀k,d.getD k 0=0\/(1<=d.getD k 0/\d.getD k 0<=4):=fun k=>by
  by_cases hk:k<d.length
  ·rw [getD_eq_getElem?_getD,getElem?_eq_getElem hk];exact .inr (h _ (getElem_mem hk))
  ·rw [getD_eq_getElem?_getD,getElem?_eq_none zb];exact .inl rfl
 have g0:=g 0;have g1:=g 1;unfold ag at hr ⊢;dsimp only at hr ⊢;generalize d.getD 0 0=a at *;generalize d.getD 1 0=b at *;generalize d.getD 2 0=c at *;clear h g
 (repeat' split)<;>(repeat' split at hr)<;>omega
theorem EO{env:List (ByteArray × Int)}(h:gm env=true){p:ByteArray × Int}(hp:p∈env):1<=p.2/\p.2<=4:=by
 have:=all_eq_true.1 h p hp;simpa using this
theorem Lf{α:Type}{env:List (ByteArray × α)}{s:ByteArray}{x:α}(h:eP env s=some x):∃p∈env,p.2=x:=by
 unfold eP at h;obtain⟨p,hp,rfl⟩:=Option.map_eq_some_iff.1 h;exact⟨p,mem_reverse.1 (mem_of_find?_eq_some hp),rfl⟩
mutual
theorem wE{env:List (ByteArray × Int)}(hE:gm env=true):∀e:Ex,aM e=true->(aX env e).2=0->1<=(aX env e).1/\(aX env e).1<=4
 | .mk op n d m s l=>by
   intro hf hi;rw [aM,Bool.and_eq_true,decide_eq_true_eq]at hf;rw [aX]at hi ⊢;obtain⟨ha,hf⟩:=hf;unfold eu at hi ⊢;by_cases c1:op=1
   ·subst c1;rw [if_pos rfl]at hf;simp only [Bool.and_eq_true]at hf;have:=Ma hf.1;exact⟨by show 1<=m;omega,by show m<=4;omega⟩
   rw [if_neg c1]at hi hf ⊢;by_cases c3:op=3
   ·rw [if_pos c3];exact⟨by show(1:Int)<=4;omega,by show(4:Int)<=4;omega⟩
   rw [if_neg c3]at hi ⊢;by_cases c2:op=2
   ·rw [if_pos c2]at hi ⊢;unfold dQ at hi ⊢;by_cases cd:bE s.toList≠0
    ·rw [if_pos cd];have:=FY s.toList;exact⟨by show 1<=bE s.toList;omega,by show bE s.toList<=4;omega⟩
    ·rw [if_neg cd]at hi ⊢
     cases hl:eP env s with
     |none=>rw [hl]at hi;simp at hi
     |some x=>
      obtain⟨p,hp,rfl⟩:=Lf hl;exact EO hE hp
   rw [if_neg c2,if_neg c3]at hf;rw [if_neg c2]at hi ⊢;simp only [Bool.and_eq_true]at hf
   split at hi<;>rename_i c4
   ·exact absurd hi c4
   rw [if_neg c4]
   split at hi<;>rename_i c5
   ·simp at hi
   rw [if_neg c5];exact Nu (sZ hE l hf.1 zb) c5
theorem sZ{env:List (ByteArray × Int)}(hE:gm env=true):∀l:List Ex,aW l=true->(bf env l).2=0->∀x∈(bf env l).1,1<=x/\x<=4
 | []=>by intro _ _ x hx;simp [bf]at hx
 |e::r=>by
  intro hf h x hx;rw [aW,Bool.and_eq_true]at hf;rw [bf]at h hx
  split at h<;>rename_i c1
  ·exact absurd h c1
  split at h<;>rename_i c2
  ·exact absurd h c2
  rw [if_neg c1,if_neg c2]at hx;rcases mem_cons.1 hx with rfl|hx
  ·exact wE hE e hf.1 zb
  ·exact sZ hE r hf.2 zb x hx
end
theorem tq(env:List (ByteArray × Int)):∀(l:List Ex) (k:Nat),k<l.length->(∀j,j<k->(aX env (l.getD j default)).2=0)->(aX env (l.getD k default)).2≠0->
 (bf env l).2=(aX env (l.getD k default)).2
 | [],k,hk,_,_=>by simp at hk
 |e::r,0,_,_,h=>by
  rw [bf,if_pos zy];rfl
 |e::r,k+1,hk,hj,h=>by
  have h0:(aX env e).2=0:=hj 0 zb;have hr:=tq env r k (by simpa using hk) (fun j hjk=>hj (j+1) zb) h;have hne:(bf env r).2≠0:=by rw [hr];exact h
  rw [bf,if_neg zb,if_pos hne];exact hr
theorem wD(env:List (ByteArray × Int)):∀l:List Ex,(∀j,j<l.length->(aX env (l.getD j default)).2=0)->bf env l=(l.map fun e=>(aX env e).1,0)
 | [],_=>by rw [bf];rfl
 |e::r,h=>by
  have h0:(aX env e).2=0:=h 0 ze;have hr:=wD env r (fun j hj=>h (j+1) (by simpa using hj));rw [bf,if_neg zb,hr,if_neg ze];rfl
theorem Ak{d:List Int}(h:(d.length:Int)=1):∃x,d= [x]:=length_eq_one_iff.1 zb
theorem eG{d:List Int}(h:(d.length:Int)=2):∃x y,d= [x,y]:=by
 match d,(show d.length=2 by omega)with
 | [a,b],_=>exact⟨a,b,rfl⟩
theorem Sz{d:List Int}(h:(d.length:Int)=3):∃x y z,d= [x,y,z]:=by
 match d,(show d.length=3 by omega)with
 | [a,b,c],_=>exact⟨a,b,c,rfl⟩
theorem BD{w:World}{base g cap:Nat}{d:List Int}(h:w.ownsRow base 3 1 (.slice (some ⟨g,0,none⟩) d.length cap) d.length (d.map (Value.int .i64)))(k:Nat)(hk:k<d.length):w.cell? ⟨g,0+k,none⟩=some (.int .i64 (d.getD k 0)):=by
 have:=World.ownsRow.cells (g:=g) h rfl k (.int .i64 (d.getD k 0)) xx;rw [addr_add]at this;rw [Nat.zero_add];exact this
theorem Kv(op:Int)(d:List Int)(base g cap:Nat)(w:World)(h4:4<=op)(h21:op<=21)(hl:(d.length:Int)=aY op)(hx:∀x∈d,1<=x)(h:w.ownsRow base 3 1 (.slice (some ⟨g,0,none⟩) d.length cap) d.length (d.map (Value.int .i64))) :
 Calls prog 157 #[.int .i64 op,.slice (some ⟨g,0,none⟩) d.length cap] w (fQ (ag op d) w):=by
 have hc:=BD h;clear h;rcases(show op=4\/op=5\/op=6\/op=7\/op=8\/op=9\/op=10\/op=11\/op=12\/op=13\/op=14\/op=15\/op=16\/op=17\/op=18\/op=19\/op=20\/op=21 by omega)with rfl|rfl|rfl|rfl|rfl|rfl|rfl|rfl|rfl|rfl|rfl|rfl|rfl|rfl|rfl|rfl|rfl|rfl
 ·obtain⟨x,rfl⟩:=Ak (d:=d) zk;exact Qx x g 0 cap w (hc 0 ze) (hx _ ze)
 ·obtain⟨x,rfl⟩:=Ak (d:=d) zk;exact Qw x g 0 cap w (hc 0 ze) (hx _ ze)
 ·obtain⟨x,rfl⟩:=Ak (d:=d) zk;exact Qv x g 0 cap w (hc 0 ze) (hx _ ze)
 ·obtain⟨x,y,rfl⟩:=eG (d:=d) zk;exact Qu x y g 0 cap w (hc 0 ze) (hc 1 ze) ⟨hx _ ze,hx _ ze⟩
 ·obtain⟨x,y,rfl⟩:=eG (d:=d) zk;exact Qt x y g 0 cap w (hc 0 ze) (hc 1 ze) ⟨hx _ ze,hx _ ze⟩
 ·obtain⟨x,y,rfl⟩:=eG (d:=d) zk;exact Qs x y g 0 cap w (hc 0 ze) (hc 1 ze) ⟨hx _ ze,hx _ ze⟩
 ·obtain⟨x,y,rfl⟩:=eG (d:=d) zk;exact NK x y g 0 cap w (hc 0 ze) (hc 1 ze) ⟨hx _ ze,hx _ ze⟩
 ·obtain⟨x,y,rfl⟩:=eG (d:=d) zk;exact NJ x y g 0 cap w (hc 0 ze) (hc 1 ze) ⟨hx _ ze,hx _ ze⟩
 ·obtain⟨x,y,rfl⟩:=eG (d:=d) zk;exact NI x y g 0 cap w (hc 0 ze) (hc 1 ze) ⟨hx _ ze,hx _ ze⟩
 ·obtain⟨x,y,rfl⟩:=eG (d:=d) zk;exact NH x y g 0 cap w (hc 0 ze) (hc 1 ze) ⟨hx _ ze,hx _ ze⟩
 ·obtain⟨x,y,rfl⟩:=eG (d:=d) zk;exact NG x y g 0 cap w (hc 0 ze) (hc 1 ze) ⟨hx _ ze,hx _ ze⟩
 ·obtain⟨x,y,rfl⟩:=eG (d:=d) zk;exact NF x y g 0 cap w (hc 0 ze) (hc 1 ze) ⟨hx _ ze,hx _ ze⟩
 ·obtain⟨x,y,rfl⟩:=eG (d:=d) zk;exact NE x y g 0 cap w (hc 0 ze) (hc 1 ze) ⟨hx _ ze,hx _ ze⟩
 ·obtain⟨x,y,rfl⟩:=eG (d:=d) zk;exact NC x y g 0 cap w (hc 0 ze) (hc 1 ze) ⟨hx _ ze,hx _ ze⟩
 ·obtain⟨x,y,rfl⟩:=eG (d:=d) zk;exact NA x y g 0 cap w (hc 0 ze) (hc 1 ze) ⟨hx _ ze,hx _ ze⟩
 ·obtain⟨x,y,rfl⟩:=eG (d:=d) zk;exact Nz x y g 0 cap w (hc 0 ze) (hc 1 ze) ⟨hx _ ze,hx _ ze⟩
 ·obtain⟨x,y,rfl⟩:=eG (d:=d) zk;exact Ny x y g 0 cap w (hc 0 ze) (hc 1 ze) ⟨hx _ ze,hx _ ze⟩
 ·obtain⟨x,y,z,rfl⟩:=Sz (d:=d) zk;exact Nw x y z g 0 cap w (hc 0 ze) (hc 1 ze) (hc 2 ze) ⟨hx _ ze,hx _ ze,hx _ ze⟩
theorem Bt(op:Int)(d:List Int)(base g cap:Nat)(w:World)(h4:4<=op)(h21:op<=21)(hl:(d.length:Int)=aY op)(hx:∀x∈d,1<=x)(h:w.ownsRow base 3 1 (.slice (some ⟨g,0,none⟩) d.length cap) d.length (d.map (Value.int .i64))) :
 Calls prog 90 #[.int .i64 op,.slice (some ⟨g,0,none⟩) d.length cap] w (fe (ag op d) w):=by
 have hc:=BD h;clear h;rcases(show op=4\/op=5\/op=6\/op=7\/op=8\/op=9\/op=10\/op=11\/op=12\/op=13\/op=14\/op=15\/op=16\/op=17\/op=18\/op=19\/op=20\/op=21 by omega)with rfl|rfl|rfl|rfl|rfl|rfl|rfl|rfl|rfl|rfl|rfl|rfl|rfl|rfl|rfl|rfl|rfl|rfl
 ·obtain⟨x,rfl⟩:=Ak (d:=d) zk;exact Ku x g 0 cap w (hc 0 ze) (hx _ ze)
 ·obtain⟨x,rfl⟩:=Ak (d:=d) zk;exact Kt x g 0 cap w (hc 0 ze) (hx _ ze)
 ·obtain⟨x,rfl⟩:=Ak (d:=d) zk;exact Kr x g 0 cap w (hc 0 ze) (hx _ ze)
 ·obtain⟨x,y,rfl⟩:=eG (d:=d) zk;exact Kq x y g 0 cap w (hc 0 ze) (hc 1 ze) ⟨hx _ ze,hx _ ze⟩
 ·obtain⟨x,y,rfl⟩:=eG (d:=d) zk;exact Ko x y g 0 cap w (hc 0 ze) (hc 1 ze) ⟨hx _ ze,hx _ ze⟩
 ·obtain⟨x,y,rfl⟩:=eG (d:=d) zk;exact Kn x y g 0 cap w (hc 0 ze) (hc 1 ze) ⟨hx _ ze,hx _ ze⟩
 ·obtain⟨x,y,rfl⟩:=eG (d:=d) zk;exact FP x y g 0 cap w (hc 0 ze) (hc 1 ze) ⟨hx _ ze,hx _ ze⟩
 ·obtain⟨x,y,rfl⟩:=eG (d:=d) zk;exact FO x y g 0 cap w (hc 0 ze) (hc 1 ze) ⟨hx _ ze,hx _ ze⟩
 ·obtain⟨x,y,rfl⟩:=eG (d:=d) zk;exact FN x y g 0 cap w (hc 0 ze) (hc 1 ze) ⟨hx _ ze,hx _ ze⟩
 ·obtain⟨x,y,rfl⟩:=eG (d:=d) zk;exact FM x y g 0 cap w (hc 0 ze) (hc 1 ze) ⟨hx _ ze,hx _ ze⟩
 ·obtain⟨x,y,rfl⟩:=eG (d:=d) zk;exact FL x y g 0 cap w (hc 0 ze) (hc 1 ze) ⟨hx _ ze,hx _ ze⟩
 ·obtain⟨x,y,rfl⟩:=eG (d:=d) zk;exact FK x y g 0 cap w (hc 0 ze) (hc 1 ze) ⟨hx _ ze,hx _ ze⟩
 ·obtain⟨x,y,rfl⟩:=eG (d:=d) zk;exact FJ x y g 0 cap w (hc 0 ze) (hc 1 ze) ⟨hx _ ze,hx _ ze⟩
 ·obtain⟨x,y,rfl⟩:=eG (d:=d) zk;exact FI x y g 0 cap w (hc 0 ze) (hc 1 ze) ⟨hx _ ze,hx _ ze⟩
 ·obtain⟨x,y,rfl⟩:=eG (d:=d) zk;exact FH x y g 0 cap w (hc 0 ze) (hc 1 ze) ⟨hx _ ze,hx _ ze⟩
 ·obtain⟨x,y,rfl⟩:=eG (d:=d) zk;exact FE x y g 0 cap w (hc 0 ze) (hc 1 ze) ⟨hx _ ze,hx _ ze⟩
 ·obtain⟨x,y,rfl⟩:=eG (d:=d) zk;exact FD x y g 0 cap w (hc 0 ze) (hc 1 ze) ⟨hx _ ze,hx _ ze⟩
 ·obtain⟨x,y,z,rfl⟩:=Sz (d:=d) zk;exact Nv x y z g 0 cap w (hc 0 ze) (hc 1 ze) (hc 2 ze) ⟨hx _ ze,hx _ ze,hx _ ze⟩
abbrev bdN(l:List (ByteArray × Int))(i:Nat):ByteArray:=(l.getD i (ByteArray.empty,0)).1
abbrev bdD(l:List (ByteArray × Int))(i:Nat):Int:=(l.getD i (ByteArray.empty,0)).2
def dx(w:World)(v:Value)(l:List (ByteArray × Int)):Prop:=
 l.length<=1000/\∃a cap,v= .slice a l.length cap/\(l.length=0\/∃b off,a=some ⟨b,off,none⟩/\b<w.heap.size/\∀i,i<l.length->w.cell? ⟨b,off+i*2,none⟩=some (.string (bdN l i))/\w.cell? ⟨b,off+i*2+1,none⟩=some (.int .i64 (bdD l i)))
theorem dx.below{w w':World}{v:Value}{l:List (ByteArray × Int)}{n:Nat}(h:dx w v l)(hn:w.heap.size<=n)(hb:Below n w w'):dx w' v l:=by
 obtain⟨h0,a,cap,hv,h1⟩:=h;refine⟨h0,a,cap,hv,h1.imp id ?_⟩;rintro⟨b,off,ha,hlt,hc⟩;refine⟨b,off,ha,Nat.lt_of_lt_of_le hlt hb.size,fun i hi=>?_⟩;rw [hb.cell (p:=⟨b,off+i*2,none⟩) (Nat.lt_of_lt_of_le hlt hn),hb.cell (p:=⟨b,off+i*2+1,none⟩) (Nat.lt_of_lt_of_le hlt hn)];exact hc i hi
theorem dx.grows{w w':World}{v:Value}{l:List (ByteArray × Int)}(h:dx w v l)(hg:w.Grows w'):dx w' v l:=h.below (Nat.le_refl _) hg.below
theorem dx.grow{w:World}{v:Value}{l:List (ByteArray × Int)}(h:dx w v l)(bs:Array Obj)(d:Nat):dx (w.grow bs d) v l:=h.grows ⟨bs,d,rfl⟩
theorem dx.alloc{w:World}{v:Value}{l:List (ByteArray × Int)}(h:dx w v l)(o:Obj):dx (w.alloc o) v l:=h.below (Nat.le_refl _) ((Below.refl _ _).alloc (Nat.le_refl _) _)
def PQ(g:FuncId)(lb:Array Value)(l:List (ByteArray × Int))(p:Nat->Bool)(w:World):Prop:=
 ∀k,k<l.length->∀w',w.Grows w'->Calls prog g (#[.agg #[.string (bdN l k),.int .i64 (bdD l k)]]++lb) w' fun r w''=>r= .returned (.bool (p k))/\w'.Grows w''
theorem LB(g:FuncId)(lb:Array Value)(eg:∀args w,(callFunc g args).run prog w= .ok (.enter g args) w)(l:List (ByteArray × Int))(v:Value)(p:Nat->Bool)(w:World)(h:dx w v l)(hp:Hid (PQ g lb l p w)) :
 Calls prog 155 #[v,.func (.func g) #[] lb] w fun r w'=>(∃z,r= .returned (.int .i64 z)/\MK l.length p z)/\w.Grows w':=by
 obtain⟨hlen,a,cap,rfl,hc⟩:=h;have Hc:=yq hc;clear hc
 go_enter func155,ntmps155
 go_wp2_with fail
 go_loopw [5,8] (fun _ v8 wr=>∃k:Nat,k<=l.length/\v8= .int .i64 k/\Hid (∀j,j<k->p j=false)/\w.Grows wr) (fun _ v8 _=>l.length-(intOf v8).toNat)
 case atStart=>exact⟨0,by omega,rfl,yq (fun j hj=>by omega),.refl _⟩
 case round=>
  obtain⟨k,hk,rfl,hno,hgr⟩:=hrel;have HG:=yq hgr;by_cases hlt2:k<l.length
  ·rcases Hc.out with h0|⟨b,off,rfl,hbw,hx⟩
   ·omega
   ·obtain⟨x0,x1⟩:=hx k hlt2;have y0:wr.cell? ⟨b,off+k*2,none⟩=some (.string (bdN l k)):=by rw [hgr.below.cell (p:=⟨b,off+k*2,none⟩) hbw];exact x0
    have y1:wr.cell? ⟨b,off+k*2+1,none⟩=some (.int .i64 (bdD l k)):=by rw [hgr.below.cell (p:=⟨b,off+k*2+1,none⟩) hbw];exact x1
    clear hx x0 x1;have d1:(k:Int)<(l.length:Int):=by omega
    have hcall:=hp.out k hlt2 _ hgr;generalize bdN l k=nk at *;generalize bdD l k=dk at *;have HLT:=yq hlt2;clear hgr
    cases hq:p k with
    |true=>
     rw [hq]at hcall;have HQ:=yq hq;clear hq;have HCL:=yq hcall;clear hcall
     go_wp2_with (go_at_fn g;refine HCL.out.mono ?_;rintro e' w' ⟨rfl,hg2⟩;have HG2:=yq hg2;clear hg2)
     go_returns
     exact⟨⟨_,rfl,.inr ⟨k,HLT.out,rfl,HQ.out⟩⟩,World.Grows.trans HG.out HG2.out⟩
    |false=>
     rw [hq]at hcall;have HQ:=yq hq;clear hq;have HCL:=yq hcall;clear hcall
     go_wp2_with (go_at_fn g;refine HCL.out.mono ?_;rintro e' w' ⟨rfl,hg2⟩;have HG2:=yq hg2;clear hg2)
     go_roundw
     case rel=>exact⟨k+1,by omega,by go_num,yq (fun j hj=>by
      by_cases ej:j=k
      ·subst ej;exact HQ.out
      ·exact hno.out j zb),World.Grows.trans HG.out HG2.out⟩
     case measure=>simp [intOf];omega
  ·obtain rfl:k=l.length:=by omega
   clear hgr
   go_wp2_with fail
   go_returns
   exact⟨⟨_,rfl,.inl ⟨rfl,hno.out⟩⟩,HG.out⟩
theorem uL(g:FuncId)(lb:Array Value)(eg:∀args w,(callFunc g args).run prog w= .ok (.enter g args) w)(l:List (ByteArray × Int))(v:Value)(p:Nat->Bool)(w:World)(h:dx w v l)(hp:Hid (PQ g lb l p w)) :
 Calls prog 102 #[v,.func (.func g) #[] lb] w fun r w'=>r= .returned (.bool ((List.range l.length).any p))/\w.Grows w':=by
 have HI:=yq (LB g lb eg l v p w h hp);obtain⟨-,a,cap,rfl,-⟩:=h;clear hp;generalize hX:(List.range l.length).any p=X;have HX:=yq hX;clear hX
 go_enter func102,ntmps102
 go_wp2_with (go_at_call 155;refine HI.out.mono ?_;rintro e' w' ⟨⟨z,rfl,hz⟩,bs2,d2,rfl⟩;have HZ:=yq hz.any;clear hz)
 go_returns
 exact⟨av xe,.of_below au⟩
theorem Jm:∀args w,(callFunc 104 args).run prog w= .ok (.enter 104 args) w:=enters_of func104 zd rfl
theorem Mk(n:ByteArray)(d:Int)(w:World):Calls prog 104 #[.agg #[.string n,.int .i64 d]] w fun r w'=>r= .returned (.bool (!decide (1<=d/\d<=4)))/\w.Grows w':=by
 by_cases h1:d<1
 ·go_enter func104,ntmps104
  exact GG
 ·by_cases h2:d > 4
  ·go_enter func104,ntmps104
   exact GG
  ·go_enter func104,ntmps104
   exact GG
open Go.RowKit Go.Shelf
attribute [local go_sem] Oper.semAt_some
def lq(n k:Nat):List (Fin n):=(finRange n).reverse.take k
theorem nP(n k:Nat)(i:Fin n)(hk:k<n)(hi:n-1-k=i.1):lq n (k+1)=lq n k++[i]:=by
 have hl:k<(finRange n).reverse.length:=by simpa using hk
 unfold lq;rw [take_succ_eq_append_getElem hl]
 congr 2
 apply Fin.ext;rw [getElem_reverse];simp;omega
theorem AJ(n k:Nat)(hk:k<=n):(lq n k).length=k:=by simp [lq,hk]
theorem xP{n k:Nat}(i:Fin n)(hk:n<=i.1+k):i∈lq n k:=by
 unfold lq;have hl:n-1-i.1<(finRange n).reverse.length:=by simp;omega
 have he:(finRange n).reverse[n-1-i.1]=i:=by
  apply Fin.ext;rw [getElem_reverse];simp;omega
 rw [mem_take_iff_getElem];exact⟨n-1-i.1,by simp;omega,he⟩
abbrev nW:=List (ByteArray × Int)
def nW.el(x:nW)(i:Nat):Value:=.agg #[.string (bdN x i),.int .i64 (bdD x i)]
def nW.Lies(x:nW)(n₀:Nat)(W:World)(v:Value)(n:Nat):Prop:=
 n<=1000/\∃a cap,v= .slice a n cap/\(n=0\/∃b off,a=some ⟨b,off,none⟩/\b<n₀/\∀i,i<n->W.cell? ⟨b,off+i*2,none⟩=some (.string (bdN x i))/\W.cell? ⟨b,off+i*2+1,none⟩=some (.int .i64 (bdD x i)))
theorem nW.Lies.below{x:nW}{n₀ n:Nat}{W W':World}{v:Value}(h:nW.Lies x n₀ W v n)(hb:Below n₀ W W'):nW.Lies x n₀ W' v n:=by
 obtain⟨h0,a,cap,hv,h1⟩:=h;refine⟨h0,a,cap,hv,h1.imp id ?_⟩;rintro⟨b,off,ha,hlt,hc⟩;refine⟨b,off,ha,hlt,fun i hi=>?_⟩;rw [hb.cell (p:=⟨b,off+i*2,none⟩) hlt,hb.cell (p:=⟨b,off+i*2+1,none⟩) hlt];exact hc i hi
theorem dx.lies{W:World}{v:Value}{l:List (ByteArray × Int)}(h:dx W v l):nW.Lies l W.heap.size W v l.length:=h
theorem Jn(F:Fence)(n:Nat)(hf:F.fn 226)(hro:F.round=none)(hn:1<=n)(l Bs n₀ len:Nat)(x:nW)(v:Value)(J Jx:List (Fin len)->World->Prop)
 (hY:∀pre (i:Fin len) W,J pre W->pre.length<len->YieldAt F (n-1) prog l #[.int .i64 ((i.1:Nat):Int),x.el i.1] W fun e W'=>
  (e= .returned (.bool true)/\J (pre++[i]) W'/\Below n₀ W W')\/(e= .returned (.bool false)/\Jx (pre++[i]) W'))
 (W:World) (hBs:W.cell? ⟨Bs,0,none⟩=some v) (hBl:Bs<n₀) (hL:x.Lies n₀ W v len) (h0:J [] W) :
 CallsIn F n prog 226 #[.func (.yield l) #[] #[],.pointer (some ⟨Bs,0,none⟩)] W fun e W'=>(∃v,e= .returned v)/\
  ((∃ys,ys=lq len len/\J ys W')\/(∃pre,(∃k,k<len/\pre=lq len (k+1))/\Jx pre W')):=by
 have HL:=yq hL;obtain⟨h1000,a,cap,rfl,-⟩:=hL;refine callsIn_of_wp func226 rfl hf ?_ hro;simp only [ntmps226,size_toArray,length_cons,length_nil,Nat.reduceAdd,Nat.reduceSub,Array.replicate_succ,Array.replicate_zero,push_toArray,append_toArray,nil_append,cons_append]
 gi_wp2
 gi_loopw [3] (fun vi wr=>∃k:Nat,k<=len/\vi= .int .i64 ((len:Int)-1-k)/\J (lq len k) wr/\Below n₀ W wr) (fun vi _=>(intOf vi+1).toNat)
 case atStart=>exact⟨0,Nat.zero_le _,by simp,h0,Below.refl _ _⟩
 case round=>
  obtain⟨k,hk,rfl,hJs,hnx⟩:=hrel;by_cases hlt:k<len
  ·have hcs:=(hnx.cell (p:=⟨Bs,0,none⟩) hBl).trans hBs;have hLr:=HL.out.below hnx;obtain⟨-,a',cap',hv,hx⟩:=hLr;simp only [Value.slice.injEq,true_and]at hv;obtain⟨rfl,rfl⟩:=hv;rcases hx with hx|⟨b,off,rfl,hb,hx⟩
   ·omega
   obtain⟨i,hi⟩:∃i:Nat,(len:Int)-1-k=i:=⟨len-1-k,by omega⟩;have hii:i<len:=by omega
   have hik:len-1-k=i:=by omega
   obtain⟨q0,q1⟩:=hx i hii;obtain⟨fn,tmps,assign,body,hy,hR⟩:=hY _ ⟨i,hii⟩ wr hJs (by rw [AJ _ _ hk];exact hlt);simp only at hy;unfold nW.el at hy;unfold bdN at hy q0;unfold bdD at hy q1;generalize(x.getD i (ByteArray.empty,0)).1=z0 at *;generalize(x.getD i (ByteArray.empty,0)).2=z1 at *;have d1:(i:Int)<(len:Int):=by omega
   have d0:(0:Int)<=(i:Int):=by omega
   have hlen1:(len:Int)<=1000:=by omega
   rw [hi];have HI:=yq hi;have HIK:=yq hik;clear hx hi hik hBs h0
   gi_wp2
   refine hR.mono ?_;rintro e W3 (⟨rfl,hJ3,hk3⟩|⟨rfl,hJx3⟩)
   ·gi_wp2
    go_roundw
    case rel=>exact⟨k+1,by omega,by have:=HI.out;first|(congr 1;omega)|(simp;omega),by rw [nP _ _ ⟨i,hii⟩ hlt HIK.out];exact hJ3,hnx.trans hk3⟩
    case measure=>first|(simp [intOf];done)|(simp [intOf];omega)
   ·gi_wp2
    refine bodyPost_ret (results_none rfl _ _ _) rfl ?_;exact⟨⟨_,rfl⟩,.inr ⟨_,⟨k,hlt,by rw [nP _ _ ⟨i,hii⟩ hlt HIK.out]⟩,hJx3⟩⟩
  ·obtain rfl:k=len:=by omega
   have hz:(k:Int)-1-k= -1:=by omega
   rw [hz];clear hz
   gi_wp2
   go_end0
   exact⟨⟨_,rfl⟩,.inl ⟨_,rfl,hJs⟩⟩
theorem Ml(F:Fence)(n:Nat)(hf:F.fn 205)(hro:F.round=none)(a:Option Addr)(len cap:Nat)(w:World) :
 CallsIn F n prog 205 #[.slice a len cap] w fun e w'=>e= .returned (.func (.func 226) #[] #[.pointer (some ⟨w.heap.size,0,none⟩)])/\w'=w.alloc (.cells #[.slice a len cap] 52):=by
 refine callsIn_of_wp func205 rfl hf ?_ hro;simp only [ntmps205,size_toArray,length_cons,length_nil,Nat.reduceAdd,Nat.reduceSub,Array.replicate_succ,Array.replicate_zero,push_toArray,append_toArray,nil_append,cons_append]
 gi_wp2
 go_ret
 exact⟨rfl,rfl⟩
theorem CY(F:Fence)(n:Nat)(hf:F.fn 226)(hro:F.round=none)(hn:1<=n)(Bs n₀:Nat)(v:Value)(x:nW)(len:Nat)(w:World)(hBs:Bs<n₀)(hn₀:n₀<=w.heap.size)
 (hc:w.cell? ⟨Bs,0,none⟩=some v) (hL:x.Lies n₀ w v len) :
 SeqStopsK F n prog 226 #[.pointer (some ⟨Bs,0,none⟩)] (fun i:Fin len=>#[Value.int .i64 ((i.1:Nat):Int),x.el i.1]) (Below n₀) (fun ys=>ys=lq len len)
  (fun pre=>∃k,k<len/\pre=lq len (k+1)) len w:=fun l J Jx W hW _ _ hY h0=>
 Jn F n hf hro hn l Bs n₀ len x v J Jx hY W ((hW.cell (p:=⟨Bs,0,none⟩) (by show Bs<w.heap.size;omega)).trans hc) hBs (hL.below (hW.mono hn₀)) h0
def iO(e:Ex):Bool:=decide ((e.args.length:Int)=aY e.op)&&
 (if e.op=1 then fB e.num e.den e.dim&&e.name.toList.isEmpty
  else if e.op=2 then decide (e.num=0)&&decide (e.den=0)&&decide (e.dim=0)&&ib e.name
  else if e.op=3 then decide (e.dim=0)&&e.name.toList.isEmpty&&decide (e.den=1)&&decide (1<=e.num)&&decide (e.num<=45)
  else decide (e.num=0)&&decide (e.den=0)&&decide (e.dim=0)&&e.name.toList.isEmpty)
theorem Cx(e:Ex):aM e=(iO e&&aW e.args):=by
 rw [dn];unfold iO;by_cases hl:(e.args.length:Int)=aY e.op
 ·rw [decide_eq_true hl,Bool.true_and,Bool.true_and]
  have nil (h:e.op=1\/e.op=2\/e.op=3):aW e.args=true:=by
   have:e.args= []:=by
    have h0:aY e.op=0:=by unfold aY;rw [if_pos zb]
    exact eq_nil_of_length_eq_zero zb
   rw [this];rfl
  by_cases o1:e.op=1
  ·rw [if_pos o1,if_pos o1,nil (.inl o1),Bool.and_true]
  ·rw [if_neg o1,if_neg o1];by_cases o2:e.op=2
   ·rw [if_pos o2,if_pos o2,nil (.inr (.inl o2)),Bool.and_true]
   ·rw [if_neg o2,if_neg o2];by_cases o3:e.op=3
    ·rw [if_pos o3,if_pos o3,nil (.inr (.inr o3)),Bool.and_true]
    ·rw [if_neg o3,if_neg o3,Bool.and_comm]
 ·rw [decide_eq_false hl];rfl
theorem Cv(l:List Ex):aW l=!(List.range l.length).any fun k=>!aM (l.getD k default):=by
 induction l with
 |nil=>rfl
 |cons e r ih=>
  rw [aW,ih,length_cons,range_succ_eq_map,any_cons,any_map];simp only [getD_cons_zero,Bool.not_or,Bool.not_not]
  congr 1
theorem Hd(e:Ex)(a:Option Addr)(cap:Nat)(w:World)(hr:jL e)(hne:¬(e.args.length:Int)=aY e.op):(Calls prog 147 #[exV e (.slice a e.args.length cap)] w fun r w'=>r= .returned (.bool (iO e))/\w.Grows w'):=by
 have HF:Hid (iO e=false):=yq (by unfold iO;rw [decide_eq_false hne,Bool.false_and]);obtain⟨on,od⟩:=hr.num;obtain⟨pn,pd⟩:=hr.den;have hsz:=hr.name;have hi:=yq (And.intro hr.num (And.intro hr.den hr.dim));clear hr;have h1:((e.args.length:Int)!=aY e.op)=true:=by simpa using hne
 clear hne
 go_enter func147,ntmps147
 go_wp2_with fail
 go_quiet ((go_at_call 198;exact Calls.quiet_eq (kX _ _)))
 exact Qe
theorem Eh(e:Ex)(a:Option Addr)(cap:Nat)(w:World)(hr:jL e)(hle:(e.args.length:Int)=aY e.op)(ho:e.op=2):(Calls prog 147 #[exV e (.slice a e.args.length cap)] w fun r w'=>r= .returned (.bool (iO e))/\w.Grows w'):=by
 have HF:Hid (iO e=(decide (e.num=0)&&decide (e.den=0)&&decide (e.dim=0)&&ib e.name)):=yq (by unfold iO;rw [decide_eq_true hle,Bool.true_and,if_neg zb,if_pos ho]);obtain⟨on,od⟩:=hr.num;obtain⟨pn,pd⟩:=hr.den;have hsz:=hr.name;have hi:=yq (And.intro hr.num (And.intro hr.den hr.dim));clear hr;have h1:((e.args.length:Int)!=aY 2)=false:=by rw [ho]at hle;simpa using hle
 clear hle;have HM:=yq (show e.name.size<=maxLen by unfold maxLen;omega)
 go_enter func147,ntmps147
 go_wp2_with fail
 go_quiet ((go_at_call 198;exact Calls.quiet_eq (kX _ _)))
 go_wp2_with (go_at_call 199;refine gw (Cf _ _ HM.out) ?_)
 all_goals
  go_returns
  exact⟨av (by rw [HF.out];first|(simp [*];done)|(simp [*];rfl)),.of_below au⟩
theorem Ei(e:Ex)(a:Option Addr)(cap:Nat)(w:World)(hr:jL e)(hle:(e.args.length:Int)=aY e.op)(ho:e.op=3):(Calls prog 147 #[exV e (.slice a e.args.length cap)] w fun r w'=>r= .returned (.bool (iO e))/\w.Grows w'):=by
 have HF:Hid (iO e=(decide (e.dim=0)&&e.name.toList.isEmpty&&decide (e.den=1)&&decide (1<=e.num)&&decide (e.num<=45))):=yq (by unfold iO;rw [decide_eq_true hle,Bool.true_and,if_neg zb,if_neg zb,if_pos ho]);obtain⟨on,od⟩:=hr.num;obtain⟨pn,pd⟩:=hr.den;have hsz:=hr.name;have hi:=yq (And.intro hr.num (And.intro hr.den hr.dim));clear hr;have h1:((e.args.length:Int)!=aY 3)=false:=by rw [ho]at hle;simpa using hle
 clear hle
 go_enter func147,ntmps147
 go_wp2_with fail
 go_quiet ((go_at_call 198;exact Calls.quiet_eq (kX _ _)))
 go_wp2_with fail
 all_goals
  go_returns
  exact⟨av (by rw [HF.out];first|(simp [*];done)|(simp [*];rfl)|(simp [*];intros;omega)),.of_below au⟩
theorem KO(e:Ex)(a:Option Addr)(cap:Nat)(w:World)(hr:jL e)(hle:(e.args.length:Int)=aY e.op)(o1:¬e.op=1)(o2:¬e.op=2)(o3:¬e.op=3):(Calls prog 147 #[exV e (.slice a e.args.length cap)] w fun r w'=>r= .returned (.bool (iO e))/\w.Grows w'):=by
 have HF:Hid (iO e=(decide (e.num=0)&&decide (e.den=0)&&decide (e.dim=0)&&e.name.toList.isEmpty)):=yq (by unfold iO;rw [decide_eq_true hle,Bool.true_and,if_neg o1,if_neg o2,if_neg o3]);obtain⟨on,od⟩:=hr.num;obtain⟨pn,pd⟩:=hr.den;have hsz:=hr.name;have hi:=yq (And.intro hr.num (And.intro hr.den hr.dim));clear hr;have h1:((e.args.length:Int)!=aY e.op)=false:=by simpa using hle
 have p1:(e.op==1)=false:=by simpa using o1
 have p2:(e.op==2)=false:=by simpa using o2
 have p3:(e.op==3)=false:=by simpa using o3
 clear hle o1 o2 o3
 go_enter func147,ntmps147
 go_wp2_with fail
 go_quiet ((go_at_call 198;exact Calls.quiet_eq (kX _ _)))
 go_wp2_with fail
 all_goals
  go_returns
  exact⟨av (by rw [HF.out];simp [*]),.of_below au⟩
def Pw:Prop:=∀(e:Ex) (a:Option Addr) (cap:Nat) (w:World),jL e->Tab w->(e.args.length:Int)=aY e.op->e.op=1->(Calls prog 147 #[exV e (.slice a e.args.length cap)] w fun r w'=>r= .returned (.bool (iO e))/\w.Grows w')
def OkX(e:Ex):Prop:=Pw\/iV e=true
theorem OkX.arg{e:Ex}(h:OkX e)(k:Nat)(hk:k<e.args.length):OkX (e.arg k):=h.imp id fun h=>Ho h k hk
theorem Hl(e:Ex)(a:Option Addr)(cap:Nat)(w:World)(hr:jL e)(ht:Tab w)(hx:OkX e):(Calls prog 147 #[exV e (.slice a e.args.length cap)] w fun r w'=>r= .returned (.bool (iO e))/\w.Grows w'):=by
 by_cases hle:(e.args.length:Int)=aY e.op
 ·by_cases o1:e.op=1
  ·exact hx.elim (fun h=>h e a cap w hr ht hle o1) (fun h=>absurd o1 (KP h))
  ·by_cases o2:e.op=2
   ·exact Eh e a cap w hr hle o2
   ·by_cases o3:e.op=3
    ·exact Ei e a cap w hr hle o3
    ·exact KO e a cap w hr hle o1 o2 o3
 ·exact Hd e a cap w hr hle
theorem IL:∀args w,(callFunc 149 args).run prog w= .ok (.enter 149 args) w:=enters_of func149 zd rfl
theorem EH(S:Nat->Prop)(n:Nat):∀(e:Ex),e.size<=n->OkX e->∀(v:Value) (w:World),aT S w e v->Tab w->
 Calls prog 86 #[exV e v] w fun r w'=>r= .returned (.bool (aM e))/\w.Grows w':=by
 induction n with
 |zero=>intro e he;have:=e.size_pos;omega
 |succ n ih=>
  intro e he hx v w h ht;have HX:=yq hx;have HR:=yq h;have HT:=yq ht;have HN:Hid (_):=yq (fun a cap w (ht:Tab w)=>Hl e a cap w h.rng ht hx);have hany:=Cv e.args;have hfn:=Cx e;obtain⟨a,cap,rfl⟩:=h.form0
  have HC:Hid (∀w',w.Grows w'->Calls prog 148 #[.slice a e.args.length cap,.func (.func 149) #[] #[]] w' fun r w''=>r= .returned (.bool (!aW e.args))/\w'.Grows w''):=yq (fun w' hg=>by
   have:=uK S 149 #[] IL e (.slice a e.args.length cap) (fun k=>!aM (e.arg k)) w' (HR.out.grows hg) (yq (fun k hk ak ck w1 hg1 hR1=>by
    have hsm:=e.size_arg k hk;have IH:=yq (fun w2 h1 h2=>ih (e.arg k) zb (HX.out.arg k hk) (.slice ak (e.arg k).args.length ck) w2 h1 h2);have hT1:=yq ((HT.out.grows hg).grows hg1);have HR1:=yq hR1;dsimp only;generalize aM (e.arg k)=q at *;clear hany hfn HN HR HT hR1 ih hg hg1 HX hx;generalize e.arg k=x at *;show Calls prog 149 #[exV x (.slice ak x.args.length ck)] w1 _
    go_enter func149,ntmps149
    go_wp2_with (go_at_call 86;refine gvq (IH.out _ (HR1.out.alloc _) (hT1.out.alloc _)) ?_;intro bs d)
    go_returns
    exact⟨av rfl,.of_below au⟩))
   rw [show(List.range e.args.length).any (fun k=>!aM (e.arg k))=!aW e.args by rw [hany,Bool.not_not];rfl]at this
   exact this)
  clear hany ih h ht HX hx;generalize aW e.args=q at *;generalize iO e=p at *;have HF:=yq hfn;clear hfn;cases p
  ·go_enter func86,ntmps86
   go_wp2_with (go_at_call 147;refine gvq (HN.out _ _ _ (HT.out.alloc _)) ?_;intro bs d)
   go_returns
   exact⟨av yo,.of_below au⟩
  ·go_enter func86,ntmps86
   go_wp2_with (first|(go_at_call 147;refine gvq (HN.out _ _ _ (HT.out.alloc _)) ?_;intro bs d)|(go_at_call 148;refine gvq (HC.out _ (.of_below au)) ?_;intro bs2 d2))
   go_returns
   exact⟨av (by rw [HF.out];simp),.of_below au⟩
theorem pX(S:Nat->Prop)(e:Ex)(v:Value)(w:World)(h:aT S w e v)(ht:Tab w)(hx:OkX e):Calls prog 86 #[exV e v] w fun r w'=>r= .returned (.bool (aM e))/\w.Grows w':=EH S e.size e (Nat.le_refl _) hx v w h ht
theorem AP(S:Nat->Prop)(e:Ex)(v:Value)(w:World)(h:Hid (aT S w e v))(hbig:Hid (e.size<=2305843009213693952))(ht:Hid (Tab w))(hx:Hid (OkX e)):Calls prog 36 #[exV e v] w fun r w'=>r= .returned (.bool (eF e))/\w.Grows w':=by
 obtain⟨a,cap,hv⟩:=h.out.form0;subst hv;by_cases c1:(e.depth:Int)<=10
 ·by_cases c2:(e.size:Int)<=60
  ·go_enter func36,ntmps36
   go_wp2_with ((first|(go_at_call 84;refine gvq (mo S e.size e (Nat.le_refl _) _ _ (h.out.alloc _) hbig) ?_;intro bs d)|(go_at_call 85;refine gvq (nT S e.size e (Nat.le_refl _) _ _ ((h.out.alloc _).grow _ _) hbig) ?_;intro bs2 d2)|(go_at_call 86;refine gvq (pX S e _ _ ((h.out.alloc _).grow _ _) ((ht.out.alloc _).grow _ _) hx.out) ?_;intro bs3 d3)))
   exact RA
  ·go_enter func36,ntmps36
   go_wp2_with ((first|(go_at_call 84;refine gvq (mo S e.size e (Nat.le_refl _) _ _ (h.out.alloc _) hbig) ?_;intro bs d)|(go_at_call 85;refine gvq (nT S e.size e (Nat.le_refl _) _ _ ((h.out.alloc _).grow _ _) hbig) ?_;intro bs2 d2)|(go_at_call 86;refine gvq (pX S e _ _ ((h.out.alloc _).grow _ _) ((ht.out.alloc _).grow _ _) hx.out) ?_;intro bs3 d3)))
   exact Rv
 ·go_enter func36,ntmps36
  go_wp2_with ((first|(go_at_call 84;refine gvq (mo S e.size e (Nat.le_refl _) _ _ (h.out.alloc _) hbig) ?_;intro bs d)|(go_at_call 85;refine gvq (nT S e.size e (Nat.le_refl _) _ _ ((h.out.alloc _).grow _ _) hbig) ?_;intro bs2 d2)|(go_at_call 86;refine gvq (pX S e _ _ ((h.out.alloc _).grow _ _) ((ht.out.alloc _).grow _ _) hx.out) ?_;intro bs3 d3)))
  exact Rx
theorem rH(l:List Ins)(sl:List ByteArray)(vi vs:Value)(i:Nat)(w:World)(hI:ig w vi l)(hS:kJ w vs sl)(hi:i<l.length) :
 Calls prog 123 #[.agg #[vi,vs],.int .i64 i] w fun e w'=>e= .returned (.bool (wfF sl.length l.length i (l.getD i default)))/\w.Grows w':=by
 obtain⟨hl6,ai,ci,rfl,hx⟩:=hI;obtain⟨hs6,-,as',cs',-,rfl,-⟩:=hS;rcases hx with h0|⟨b,off,rfl,hb,hx⟩
 ·omega
 obtain⟨⟨hn,hd⟩,x0,x1,x2,x3⟩:=hx i hi;have d1:(i:Int)<(l.length:Int):=by omega
 generalize l.getD i default=x at *;obtain⟨op,a,n,d⟩:=x;dsimp only at *;have HV:=yq (fun w=>dE n d w hn.1 hn.2 hd.1 hd.2);clear hx hi;generalize sl.length=m at *;generalize l.length=N at *;by_cases h1:op=1
 ·subst h1;by_cases ha:a=2\/a=3\/a=4
  ·have HW:Hid (wfF m N i ⟨1,a,n,d⟩=az n d):=yq (by unfold wfF;rw [if_pos rfl,decide_eq_true ha];rfl);rcases ha with rfl|rfl|rfl
   focus
    go_enter func123,ntmps123
   rotate_left
   focus
    go_enter func123,ntmps123
   rotate_left
   focus
    go_enter func123,ntmps123
   rotate_left
   all_goals
    go_wp2_with (first
     |(go_at_call 128;refine gvq (HV.out _) ?_;intro bs d')
     |(go_at_call 71;refine gw (dM _ _) ?_))
    go_returns
    exact⟨by rw [HW.out];first|rfl|simp [*],af⟩
  ·have HW:Hid (wfF m N i ⟨1,a,n,d⟩=false):=yq (by unfold wfF;rw [if_pos rfl,decide_eq_false ha];rfl);have a2:(a==2)=false:=by simp;omega
   have a3:(a==3)=false:=by simp;omega
   have a4:(a==4)=false:=by simp;omega
   clear ha
   go_enter func123,ntmps123
   go_wp2_with (first
    |(go_at_call 128;refine gvq (HV.out _) ?_;intro bs d')
    |(go_at_call 71;refine gw (dM _ _) ?_))
   go_returns
   exact⟨by rw [HW.out];first|rfl|simp [*],af⟩
 have b1:(op==1)=false:=by simpa using h1
 by_cases hz:n=0/\d=0
 case neg=>
  have HW:Hid (wfF m N i ⟨op,a,n,d⟩=false):=yq (by unfold wfF;rw [if_neg h1,if_pos hz]);by_cases hn0:n=0
  focus
   subst hn0;have hd0:(d==0)=false:=by simp;omega
  rotate_left
  focus
   have hn1:(n==0)=false:=by simpa using hn0
  rotate_left
  all_goals
   clear hz
   go_enter func123,ntmps123
   go_wp2_with (first
    |(go_at_call 128;refine gvq (HV.out _) ?_;intro bs d')
    |(go_at_call 71;refine gw (dM _ _) ?_))
   go_returns
   exact⟨by rw [HW.out];first|rfl|simp [*],af⟩
 obtain⟨rfl,rfl⟩:=hz;clear hn hd HV;have HV:Hid True:=yq trivial;by_cases h2:op=2
 ·subst h2;have HW:Hid (wfF m N i ⟨2,a,0,0⟩=decide (0<=a/\a<11)):=yq rfl;by_cases ha:0<=a
  ·have g1:decide (0<=a)=true:=decide_eq_true ha;by_cases hm:a<11
   focus
    rw [decide_eq_true ⟨ha,hm⟩]at HW;have g2:decide (a<11)=true:=decide_eq_true hm
   rotate_left
   focus
    rw [decide_eq_false (fun h=>hm h.2)]at HW;have g2:decide (a<11)=false:=decide_eq_false hm
   rotate_left
   all_goals
    go_enter func123,ntmps123
    go_wp2_with fail
    refine TS.begin [10] (World.Grows _) zd zd aj (fun hS=>?_);refine kq 0 hS ?_;refine kq 1 hS ?_;refine kq 2 hS ?_;refine kq 3 hS ?_;refine kq 4 hS ?_;refine kq 5 hS ?_;refine TS.one (i:=6) zd rfl (fun K1 hK1=>?_);have HK1:=yq hK1;clear hK1 hS;dsimp only [getElem_toArray,getElem_cons_succ,getElem_cons_zero]
    go_simp
    go_at_call 69
    refine gvq (jJ _) ?_;intro bs d;refine TS.go HK1.out af (fun hS=>?_);clear HK1 K1
    (try simp only [nS])
    refine kq 7 hS ?_;refine kq 8 hS ?_;refine kq 9 hS ?_;refine TS.weB 10 ?_;clear hS
    go_wp2_with fail
    go_returns
    exact⟨by rw [HW.out];first|rfl|simp [*],af⟩
  ·rw [decide_eq_false (fun h=>ha h.1)]at HW;have g1:decide (0<=a)=false:=decide_eq_false ha
   go_enter func123,ntmps123
   go_wp2_with fail
   refine TS.begin [10] (World.Grows _) zd zd aj (fun hS=>?_);refine kq 0 hS ?_;refine kq 1 hS ?_;refine kq 2 hS ?_;refine kq 3 hS ?_;refine TS.take (i:=4) (v:=undef) rfl zd zd zd zf (fun _ _ _ h=>h) (.inl ⟨rfl,rfl⟩) hS ?_
   (try simp only [nS])
   refine TS.take (i:=5) (v:=undef) rfl zd zd zd zf (fun _ _ _ h=>h) (.inl ⟨rfl,rfl⟩) hS ?_
   (try simp only [nS])
   refine TS.take (i:=6) (v:=undef) rfl zd zd zd zf (fun _ _ _ h=>h) (.inl ⟨rfl,rfl⟩) hS ?_
   (try simp only [nS])
   refine TS.take (i:=7) (v:=undef) rfl zd zd zd zf (fun _ _ _ h=>h) (.inl ⟨rfl,rfl⟩) hS ?_
   (try simp only [nS])
   refine TS.take (i:=8) (v:=undef) rfl zd zd zd zf (fun _ _ _ h=>h) (.inl ⟨rfl,rfl⟩) hS ?_
   (try simp only [nS])
   refine kq 9 hS ?_;refine TS.weB 10 ?_;clear hS
   go_wp2_with fail
   go_returns
   exact⟨by rw [HW.out];first|rfl|simp [*],af⟩
 have b2:(op==2)=false:=by simpa using h2
 by_cases h3:op=3\/op=4
 ·have HW:Hid (wfF m N i ⟨op,a,0,0⟩=decide (0<=a/\a<m)):=yq xE;by_cases ha:0<=a
  ·by_cases hm:a<m
   focus
    rw [decide_eq_true ⟨ha,hm⟩]at HW
   rotate_left
   focus
    rw [decide_eq_false (fun h=>hm h.2)]at HW
   rotate_left
   all_goals
    rcases h3 with rfl|rfl
    focus
     go_enter func123,ntmps123
    rotate_left
    focus
     go_enter func123,ntmps123
    rotate_left
    all_goals
     go_wp2_with (first
      |(go_at_call 128;refine gvq (HV.out _) ?_;intro bs d')
      |(go_at_call 71;refine gw (dM _ _) ?_))
     go_returns
     exact⟨by rw [HW.out];first|rfl|simp [*],af⟩
  ·rw [decide_eq_false (fun h=>ha h.1)]at HW;rcases h3 with rfl|rfl
   focus
    go_enter func123,ntmps123
   rotate_left
   focus
    go_enter func123,ntmps123
   rotate_left
   all_goals
    go_wp2_with (first
     |(go_at_call 128;refine gvq (HV.out _) ?_;intro bs d')
     |(go_at_call 71;refine gw (dM _ _) ?_))
    go_returns
    exact⟨by rw [HW.out];first|rfl|simp [*],af⟩
 have b3:(op==3)=false:=by simp;omega
 have b4:(op==4)=false:=by simp;omega
 by_cases h5:op=5
 ·subst h5;have HW:Hid (wfF m N i ⟨5,a,0,0⟩=decide (1<=a/\a<=45)):=yq rfl;by_cases ha:1<=a
  ·by_cases hm:a<=45
   focus
    rw [decide_eq_true ⟨ha,hm⟩]at HW
   rotate_left
   focus
    rw [decide_eq_false (fun h=>hm h.2)]at HW
   rotate_left
   all_goals
    go_enter func123,ntmps123
    go_wp2_with (first
     |(go_at_call 128;refine gvq (HV.out _) ?_;intro bs d')
     |(go_at_call 71;refine gw (dM _ _) ?_))
    go_returns
    exact⟨by rw [HW.out];first|rfl|simp [*],af⟩
  ·rw [decide_eq_false (fun h=>ha h.1)]at HW
   go_enter func123,ntmps123
   go_wp2_with (first
    |(go_at_call 128;refine gvq (HV.out _) ?_;intro bs d')
    |(go_at_call 71;refine gw (dM _ _) ?_))
   go_returns
   exact⟨by rw [HW.out];first|rfl|simp [*],af⟩
 have b5:(op==5)=false:=by simpa using h5
 by_cases h21:op=21\/op=22
 ·have HW:Hid (wfF m N i ⟨op,a,0,0⟩=decide ((i:Int)<a/\a<=N)):=yq xw;by_cases ha:(i:Int)<a
  ·by_cases hm:a<=N
   focus
    rw [decide_eq_true ⟨ha,hm⟩]at HW
   rotate_left
   focus
    rw [decide_eq_false (fun h=>hm h.2)]at HW
   rotate_left
   all_goals
    rcases h21 with rfl|rfl
    focus
     go_enter func123,ntmps123
    rotate_left
    focus
     go_enter func123,ntmps123
    rotate_left
    all_goals
     go_wp2_with (first
      |(go_at_call 128;refine gvq (HV.out _) ?_;intro bs d')
      |(go_at_call 71;refine gw (dM _ _) ?_))
     go_returns
     exact⟨by rw [HW.out];first|rfl|simp [*],af⟩
  ·rw [decide_eq_false (fun h=>ha h.1)]at HW;rcases h21 with rfl|rfl
   focus
    go_enter func123,ntmps123
   rotate_left
   focus
    go_enter func123,ntmps123
   rotate_left
   all_goals
    go_wp2_with (first
     |(go_at_call 128;refine gvq (HV.out _) ?_;intro bs d')
     |(go_at_call 71;refine gw (dM _ _) ?_))
    go_returns
    exact⟨by rw [HW.out];first|rfl|simp [*],af⟩
 have b21:(op==21)=false:=by simp;omega
 have b22:(op==22)=false:=by simp;omega
 by_cases h23:op=23\/op=24
 ·have HW:Hid (wfF m N i ⟨op,a,0,0⟩=decide (a=0)):=yq xt;by_cases ha:a=0
  focus
   rw [decide_eq_true ha]at HW;subst ha
  rotate_left
  focus
   rw [decide_eq_false ha]at HW;have a0:(a==0)=false:=by simpa using ha
  rotate_left
  all_goals
   rcases h23 with rfl|rfl
   focus
    go_enter func123,ntmps123
   rotate_left
   focus
    go_enter func123,ntmps123
   rotate_left
   all_goals
    go_wp2_with (first
     |(go_at_call 128;refine gvq (HV.out _) ?_;intro bs d')
     |(go_at_call 71;refine gw (dM _ _) ?_))
    go_returns
    exact⟨by rw [HW.out];first|rfl|simp [*],af⟩
 have b23:(op==23)=false:=by simp;omega
 have b24:(op==24)=false:=by simp;omega
 have HW:Hid (wfF m N i ⟨op,a,0,0⟩=decide (opF op≠0/\a=0)):=yq xr;clear h1 h2 h3 h5 h21 h23;obtain⟨q,hq⟩:∃q,opF op=q:=⟨_,rfl⟩;have HQ:=yq hq;have HO:=yq (fun w=>by have:=dM op w;rw [hq]at this;exact this);rw [hq]at HW;clear hq;by_cases hq0:q=0
 ·subst hq0;rw [decide_eq_false (fun h=>h.1 rfl)]at HW
  go_enter func123,ntmps123
  go_wp2_with (go_at_call 71;refine gw (HO.out _) ?_)
  go_returns
  exact⟨by rw [HW.out];first|rfl|simp [*],af⟩
 ·have q0:(q !=0)=true:=by simpa using hq0
  by_cases ha:a=0
  ·rw [decide_eq_true ⟨hq0,ha⟩]at HW;subst ha;clear hq0
   go_enter func123,ntmps123
   go_wp2_with (go_at_call 71;refine gw (HO.out _) ?_)
   go_returns
   exact⟨by rw [HW.out];first|rfl|simp [*],af⟩
  ·rw [decide_eq_false (fun h=>ha h.2)]at HW;have a0:(a==0)=false:=by simpa using ha
   clear hq0 ha
   go_enter func123,ntmps123
   go_wp2_with (go_at_call 71;refine gw (HO.out _) ?_)
   go_returns
   exact⟨by rw [HW.out];first|rfl|simp [*],af⟩
open Go.RowKit Go.Shelf
attribute [local go_sem] Oper.semAt_some
abbrev uQ:=List (ByteArray × Val)
abbrev stN(l:List (ByteArray × Val))(i:Nat):ByteArray:=(l.getD i (ByteArray.empty,Val.zero)).1
abbrev stV(l:List (ByteArray × Val))(i:Nat):Val:=(l.getD i (ByteArray.empty,Val.zero)).2
structure AQ(W:World)(b o:Nat)(n:ByteArray)(x:Val):Prop where
 p0:W.cell? ⟨b,o,none⟩=some (.string n)
 p1:W.cell? ⟨b,o+1,none⟩=some (.int .i64 x.dim)
 p2:W.cell? ⟨b,o+2,none⟩=some (.bool x.yes)
 p3:W.cell? ⟨b,o+3,none⟩=some (.int .i64 x.n)
 p4:W.cell? ⟨b,o+4,none⟩=some (.int .i64 x.d)
theorem AQ.same{W W':World}{b o:Nat}{n:ByteArray}{x:Val}(h:AQ W b o n x)(hw:∀o,W'.cell? ⟨b,o,none⟩=W.cell? ⟨b,o,none⟩):AQ W' b o n x:=
 ⟨by rw [hw];exact h.p0,by rw [hw];exact h.p1,by rw [hw];exact h.p2,by rw [hw];exact h.p3,by rw [hw];exact h.p4⟩
def uQ.el(x:uQ)(i:Nat):Value:=.agg #[.string (stN x i),.int .i64 (stV x i).dim,.bool (stV x i).yes,.int .i64 (stV x i).n,.int .i64 (stV x i).d]
def uQ.Lies(x:uQ)(n₀:Nat)(W:World)(v:Value)(n:Nat):Prop:=
 n<=1000/\∃a cap,v= .slice a n cap/\(n=0\/∃b off,a=some ⟨b,off,none⟩/\b<n₀/\∀i,i<n->AQ W b (off+i*5) (stN x i) (stV x i))
theorem uQ.Lies.below{x:uQ}{n₀ n:Nat}{W W':World}{v:Value}(h:uQ.Lies x n₀ W v n)(hb:Below n₀ W W'):uQ.Lies x n₀ W' v n:=by
 obtain⟨h0,a,cap,hv,h1⟩:=h;refine⟨h0,a,cap,hv,h1.imp id ?_⟩;rintro⟨b,off,ha,hlt,hc⟩;exact⟨b,off,ha,hlt,fun i hi=>(hc i hi).same fun o=>hb.cell (p:=⟨b,o,none⟩) hlt⟩
open Go.RowKit Go.ChangeShapes Go.WideShapes Go.Deep
section
variable {H : Type} {enc : TypeId × Value -> H} {P : Program} {w : World}
def fits(P:Program)(t:TypeId)(d:DataW H):Prop:=∀n∈d.weights P t,n<=140737488351232

theorem AO(b off i:Nat):(⟨b,off,none⟩:Addr).add i=⟨b,off+i,none⟩:=by unfold Addr.add;split<;>simp_all
theorem AA{w:World}{b o:Nat}{v:Value}(h:w.cell? ⟨b,o,none⟩=some v):b<w.heap.size:=by
 rcases Nat.lt_or_ge b w.heap.size with h1|h1
 ·exact h1
 ·simp [World.cell?,Array.getElem?_eq_none h1]at h
theorem wH{n:Int}(h:(Lit.int .i64 n).wf=true):I64 n:=bounds_i64 h
theorem bH.of_cells{a:Option Addr}{len cap:Nat}{zs:List Int}(hl:len<=cap)(hz:zs.length=cap)(hw:∀n∈zs,(Lit.int .i64 n).wf=true)(hb:len<=140737488355328)(ha:a=none->len=0)
 (hc:∀x,a=some x->∀i,i<cap->w.cell? (x.add i)=some (.int .i64 (zs.getD i 0))):bH w (.slice a len cap) (zs.take len):=by
 have hlen:(zs.take len).length=len:=by rw [length_take];omega
 refine⟨by omega,fun z hz2=>wH (hw z (mem_of_mem_take hz2)),a,cap,by rw [hlen], ?_⟩;rw [hlen];by_cases h0:len=0
 ·exact .inl h0
 ·cases a with
  |none=>exact .inl (ha rfl)
  |some x=>
   obtain⟨b,off,spot⟩:=x;have h1:=hc _ rfl 0 zb;have hspot:spot=none:=by simpa [Addr.add]using World.cell?_spot h1
   subst hspot
   have h2:∀i,i<cap->w.cell? ⟨b,off+i,none⟩=some (.int .i64 (zs.getD i 0)):=fun i hi=>by
    rw [<-AO];exact hc _ rfl i hi
   refine .inr ⟨b,off,rfl,AA (h2 0 zb),fun i hi=>?_⟩;rw [h2 i zb];simp [getD_eq_getElem?_getD,hi]
theorem bH.of_trod{t e:TypeId}{fuel:Nat}{v:Value}{x:DataW H × List MemPlace}(ht:P.underlying t=some (.slice e))(he:P.underlying e=some (.int .i64))(hc:P.cellsOf e=1)(hb:P.bytesOf e=8)
 (h:DataW.trod enc P w 0 (fun _=>true) true fuel t [v]=some x) (hf:fits P t x.1):∃zs,bH w v zs:=by
 rcases open_ints ht he hc h with ⟨hcs,_⟩|⟨a,l,c,zs,hcs,_,hl,hm,hz,hx,hcell,hwz⟩
 ·simp at hcs;subst hcs;exact⟨[],by simp,by simp,none,0,rfl,.inl rfl⟩
 ·simp at hcs;subst hcs;simp only [if_true]at hz
  have h8:l<=140737488355328:=by
   have h9:=hf ((l+(c-l))*8) (by rw [hx];simp [DataW.weights,ht,lits,hb,hz,Nat.min_eq_left hl]);omega
  exact⟨zs.take l,bH.of_cells hl hz hwz h8 (fun e=>by cases e) fun x' hx' i hi=>by cases hx';exact hcell i zb⟩
end
theorem c3:(prog).cellsOf 3=1:=by kernel_rfl
theorem c22:(prog).cellsOf 22=1:=by kernel_rfl
theorem b3:(prog).bytesOf 3=8:=by kernel_rfl
theorem b22:(prog).bytesOf 22=24:=by kernel_rfl
theorem gF{H:Type}{P:Program}{t:TypeId}{fs:Array Field}{l:List (DataW H)}{i:Nat}{f:Field}{d:DataW H}(ht:P.underlying t=some (.struct fs))(h:fits P t (.agg l))(hf:fs[i]? =some f)(hd:l[i]? =some d):fits P f.type d:=by
 intro n hn;refine h n ?_;simp only [DataW.weights,ht];exact DataW.weights_mem_each (j:=i) (by simp [hf]) hd n hn
theorem cZ{H:Type}{enc:TypeId × Value->H}{w:World}{fuel:Nat}{v:Value}{x:DataW H × List MemPlace}(h:DataW.trod enc prog w 0 (fun _=>true) true fuel 3 [v]=some x):∃n,v= .int .i64 n/\I64 n:=by
 obtain⟨n,hcs,_,hw⟩:=DataW.trod_int underlying3 h;exact⟨n,by simpa using hcs,wH hw⟩
end Go.Proofs.YteildlpchhlchaaGreatDoor
