import Derived.Test.YthionhbjmheimaaDoorLEvP
import Derived.Test.YthionhbjmheimaaDoorLTop
import Derived.Test.YthionhbjmheimaaDoorLK
set_option linter.all false
set_option maxHeartbeats 16000000
set_option maxRecDepth 1000000
namespace Go.Proofs.YthionhbjmheimaaDoor
def letsG:List (ByteArray × Ex)→List (ByteArray × Int)→List (ByteArray × Int) × Int
 | [],env=>(env,0)
 |t::r,env=>
  if inpD t.1.toList≠0∨nameB t.1=false then([],5)
  else if env.any (fun p=>decide (p.1=t.1))=true then([],10)
  else if(inferE env t.2).2≠0 then([],(inferE env t.2).2)else letsG r (env++[(t.1,(inferE env t.2).1)])
def letsF(l:List (ByteArray × Ex)):List (ByteArray × Int) × Int:=if 10<l.length then([],7)else letsG l []
def needF(env:List (ByteArray × Int))(e:Ex)(want:Int):Int:=if(inferE env e).2=0∧(inferE env e).1≠want then 6 else(inferE env e).2
def dupG:List Int→List Int→Bool
 |_,[]=>false
 |pre,x::r=>pre.contains x || dupG (pre++[x]) r
def ascG:List Int→Bool
 | []=>true
 |x::r=>(match r with| []=>true|y::_=>decide (x<y))&&ascG r
def grG(env:List (ByteArray × Int)):List Int→List (Int × Ex × Ex)→Int
 |_,[]=>0
 |pre,g::r=>if pre.contains g.1=true then 10 else if needF env g.2.1 1≠0 then needF env g.2.1 1 else if needF env g.2.2 4≠0 then needF env g.2.2 4 else grG env (pre++[g.1]) r
def reG(env:List (ByteArray × Int)):List Int→List (Int × Ex)→Int
 |_,[]=>0
 |pre,g::r=>if pre.contains g.1=true then 10 else if needF env g.2 2≠0 then needF env g.2 2 else reG env (pre++[g.1]) r
def versF(V:VerP):Int:=
 if(letsF V.le).2≠0 then(letsF V.le).2
 else if dupG [] (V.cr.map Prod.fst)=true then 10
 else if ascG (V.se.map Prod.fst)=false then 1
 else if grG (letsF V.le).1 [] V.gr≠0 then grG (letsF V.le).1 [] V.gr
 else reG (letsF V.le).1 [] V.re
structure LtAt(ls:List (ByteArray × Ex))(k:Nat)(env:List (ByteArray × Int)):Prop where
 all:letsG ls []=letsG (ls.drop k) env
 len:env.length=k
 nm:env.map Prod.fst=(ls.take k).map Prod.fst
theorem LtAt.zero(ls:List (ByteArray × Ex)):LtAt ls 0 []:=⟨rfl,rfl,by simp⟩
def ltStep(env:List (ByteArray × Int))(t:ByteArray × Ex):Int:=
 if inpD t.1.toList≠0∨nameB t.1=false then 5 else if env.any (fun p=>decide (p.1=t.1))=true then 10 else(inferE env t.2).2
theorem LtAt.drop{ls:List (ByteArray × Ex)}{k:Nat}(hk:k<ls.length):ls.drop k=ls.getD k default::ls.drop (k+1):=by
 exact lz19
theorem LtAt.bad{ls:List (ByteArray × Ex)}{k:Nat}{env:List (ByteArray × Int)}(h:LtAt ls k env)(hk:k<ls.length)(hb:ltStep env (ls.getD k default)≠0):letsG ls []=([],ltStep env (ls.getD k default)):=by
 rw [h.all,LtAt.drop hk,letsG]
 unfold ltStep at hb ⊢
 split
 ·rfl
 ·rename_i h1
  rw [if_neg h1]at hb
  split
  ·rfl
  ·rename_i h2
   rw [if_neg h2]at hb
   rw [if_pos hb]
theorem LtAt.next{ls:List (ByteArray × Ex)}{k:Nat}{env:List (ByteArray × Int)}(h:LtAt ls k env)(hk:k<ls.length)(hb:ltStep env (ls.getD k default)=0):LtAt ls (k+1) (env++[((ls.getD k default).1,(inferE env (ls.getD k default).2).1)]):=by
 refine⟨?_,by rw [List.length_append,h.len];rfl, ?_⟩
 ·rw [h.all,LtAt.drop hk,letsG]
  unfold ltStep at hb
  split at hb
  ·cases hb
  ·rename_i h1
   rw [if_neg h1]
   split at hb
   ·cases hb
   ·rename_i h2
    rw [if_neg h2,if_neg (by simpa using hb)]
 ·rw [List.map_append,h.nm,List.take_succ_eq_append_getElem hk,List.map_append]
  simp [List.getD_eq_getElem?_getD,List.getElem?_eq_getElem hk]
theorem LtAt.done{ls:List (ByteArray × Ex)}{env:List (ByteArray × Int)}(h:LtAt ls ls.length env):letsG ls []=(env,0):=by
 rw [h.all,List.drop_length,letsG]
theorem LtAt.dup{ls:List (ByteArray × Ex)}{k:Nat}{env:List (ByteArray × Int)}(h:LtAt ls k env)(hk:k≤ls.length)(s:ByteArray):env.any (fun p=>decide (p.1=s))=(List.range k).any fun j=>decide ((ls.getD j default).1=s):=by
 have h1:env.any (fun p=>decide (p.1=s))=(env.map Prod.fst).any fun x=>decide (x=s):=by rw [List.any_map];rfl
 rw [h1,h.nm,List.any_map,Bool.eq_iff_iff,List.any_eq_true,List.any_eq_true]
 constructor
 ·rintro⟨t,ht,hs⟩
  obtain⟨j,hj,rfl⟩:=List.mem_take_iff_getElem.1 ht
  have:j<ls.length:=by omega
  exact⟨j,List.mem_range.2 (by omega),by simpa [List.getD_eq_getElem?_getD,List.getElem?_eq_getElem this]using hs⟩
 ·rintro⟨j,hj,hs⟩
  have hj:=List.mem_range.1 hj
  have:j<ls.length:=by omega
  exact⟨ls[j],List.mem_take_iff_getElem.2 ⟨j,by omega,rfl⟩,by simpa [List.getD_eq_getElem?_getD,List.getElem?_eq_getElem this]using hs⟩
theorem letsF_len{ls:List (ByteArray × Ex)}(h:ls.length≤10):letsF ls=letsG ls []:=by unfold letsF;rw [if_neg (by omega)]
mutual
theorem infer_same{a b:List (ByteArray × Int)}:∀e:Ex,(∀s,mentB s e=true→inferN b s=inferN a s)→inferF b e=inferF a e
 | .mk op n d m s l,h=>by
   rw [inferF,inferF,infers_same l (fun x hx=>h x (by rw [mentB,hx,Bool.or_true]))]
   by_cases h2:op=2
   ·subst h2;rw [h s (by simp [mentB])]
   ·exact infNode_name h2
theorem infers_same{a b:List (ByteArray × Int)}:∀l:List Ex,(∀s,mentsB s l=true→inferN b s=inferN a s)→infersF b l=infersF a l
 | [],_=>by rw [infersF,infersF]
 |e::r,h=>by rw [infersF,infersF,infer_same e (fun x hx=>h x (by rw [mentsB,hx,Bool.true_or])),infers_same r (fun x hx=>h x (by rw [mentsB,hx,Bool.or_true]))]
end
theorem formed_leaf{op n d m:Int}{s:ByteArray}{l:List Ex}(h:formedB (.mk op n d m s l)=true)(ho:op=1∨op=2∨op=3):l= []:=by
 rw [formedB_eq,Bool.and_eq_true]at h
 have h1:(l.length:Int)=argsN op:=of_decide_eq_true h.1
 have h0:argsN op=0:=by unfold argsN;rw [if_pos (by omega)]
 exact List.eq_nil_of_length_eq_zero (by omega)
theorem formed_sub{op n d m:Int}{s:ByteArray}{l:List Ex}(h:formedB (.mk op n d m s l)=true)(h1:op≠1)(h2:op≠2)(h3:op≠3):formedsB l=true:=by
 rw [formedB_eq,Bool.and_eq_true]at h
 have:=h.2
 rw [if_neg (by exact h1),if_neg (by exact h2),if_neg (by exact h3),Bool.and_eq_true]at this
 exact this.1
mutual
theorem infer_named{a:List (ByteArray × Int)}{s:ByteArray}:∀e:Ex,formedB e=true→(inferF a e).2=0→mentB s e=true→(inferN a s).2=0
 | .mk op n d m nm l,hf,hi,hm=>by
   by_cases ho:op=1∨op=2∨op=3
   ·have hl:=formed_leaf hf ho
    subst hl
    rw [mentB,mentsB,Bool.or_false,Bool.and_eq_true]at hm
    have h2:op=2:=of_decide_eq_true hm.1
    have hs:nm=s:=of_decide_eq_true hm.2
    subst h2 hs
    rw [inferF]at hi
    exact hi
   ·have h1:op≠1:=fun h=>ho (.inl h)
    have h2:op≠2:=fun h=>ho (.inr (.inl h))
    have h3:op≠3:=fun h=>ho (.inr (.inr h))
    rw [mentB,decide_eq_false h2,Bool.false_and,Bool.false_or]at hm
    refine infers_named l (formed_sub hf h1 h2 h3) ?_ hm
    rw [inferF]at hi
    unfold infNode at hi
    rw [if_neg h1,if_neg h3,if_neg h2]at hi
    by_cases hr:(infersF a l).2=0
    ·exact hr
    ·rw [if_pos hr]at hi;exact hi
theorem infers_named{a:List (ByteArray × Int)}{s:ByteArray}:∀l:List Ex,formedsB l=true→(infersF a l).2=0→mentsB s l=true→(inferN a s).2=0
 | [],_,_,hm=>by rw [mentsB]at hm;cases hm
 |e::r,hf,hi,hm=>by
  rw [formedsB,Bool.and_eq_true]at hf
  rw [infersF]at hi
  have h1:(inferF a e).2=0:=by
   by_cases h:(inferF a e).2=0
   ·exact h
   ·rw [if_pos h]at hi;exact hi
  have h2:(infersF a r).2=0:=by
   rw [if_neg (by simpa using h1)]at hi
   by_cases h:(infersF a r).2=0
   ·exact h
   ·rw [if_pos h]at hi;exact hi
  rw [mentsB,Bool.or_eq_true]at hm
  rcases hm with hm|hm
  ·exact infer_named e hf.1 h1 hm
  ·exact infers_named r hf.2 h2 hm
end
theorem lastN_snoc{α:Type}(l:List (ByteArray × α))(p:ByteArray × α)(s:ByteArray):lastN (l++[p]) s=if p.1=s then some p.2 else lastN l s:=by
 unfold lastN
 rw [List.reverse_append,List.reverse_singleton,List.singleton_append,List.find?_cons]
 by_cases h:p.1=s
 ·rw [if_pos h,decide_eq_true h];rfl
 ·rw [if_neg h,decide_eq_false h]
structure LsOk(ls:List (ByteArray × Ex))(k:Nat)(env:List (ByteArray × Int)):Prop where
 len:env.length=k
 nm:∀i,i<k→(env.getD i default).1=(ls.getD i default).1
 ty:∀i,i<k→inferE (env.take i) (ls.getD i default).2=((env.getD i default).2,0)
 word:∀i,i<k→inpD (ls.getD i default).1.toList=0∧nameB (ls.getD i default).1=true
 inj:∀i j,i<j→j<k→(ls.getD i default).1≠(ls.getD j default).1
theorem LsOk.zero(ls:List (ByteArray × Ex)):LsOk ls 0 []:=⟨rfl,fun i h=>by omega,fun i h=>by omega,fun i h=>by omega,fun i j _ h=>by omega⟩
theorem getD_snoc{α:Type}[Inhabited α]{l:List α}{x:α}{i:Nat}:(l++[x]).getD i default=if i<l.length then l.getD i default else if i=l.length then x else default:=by
 simp only [List.getD_eq_getElem?_getD]
 by_cases h:i<l.length
 ·rw [if_pos h,List.getElem?_append_left h]
 ·rw [if_neg h,List.getElem?_append_right (by omega)]
  by_cases h2:i=l.length
  ·subst h2;simp
  ·rw [if_neg h2,List.getElem?_eq_none (by simp;omega)];rfl
theorem LsOk.next{ls:List (ByteArray × Ex)}{k:Nat}{env:List (ByteArray × Int)}(h:LsOk ls k env)(ha:LtAt ls k env)(hk:k<ls.length)(hb:ltStep env (ls.getD k default)=0) :
 LsOk ls (k+1) (env++[((ls.getD k default).1,(inferE env (ls.getD k default).2).1)]):=by
 have hl:=h.len
 unfold ltStep at hb
 split at hb
 ·cases hb
 rename_i h1
 split at hb
 ·cases hb
 rename_i h2
 have hdup:=ha.dup (by omega) (ls.getD k default).1
 have hd:∀j,j<k→(ls.getD j default).1≠(ls.getD k default).1:=fun j hj he=>by
  rw [hdup]at h2
  exact h2 (List.any_eq_true.2 ⟨j,List.mem_range.2 hj,decide_eq_true he⟩)
 refine⟨by rw [List.length_append,hl];rfl,fun i hi=>?_,fun i hi=>?_,fun i hi=>?_,fun i j hij hj=>?_⟩
 ·rw [getD_snoc]
  by_cases hik:i<k
  ·rw [if_pos (by omega)];exact h.nm i hik
  ·rw [if_neg (by omega),if_pos (by omega)]
   show(ls.getD k default).1=_
   rw [show i=k by omega]
 ·by_cases hik:i<k
  ·rw [List.take_append_of_le_length (by omega),getD_snoc,if_pos (by omega)];exact h.ty i hik
  ·obtain rfl:i=k:=by omega
   rw [List.take_append_of_le_length (by omega),List.take_of_length_le (by omega),getD_snoc,if_neg (by omega),if_pos hl.symm]
   exact Prod.ext rfl hb
 ·by_cases hik:i<k
  ·exact h.word i hik
  ·obtain rfl:i=k:=by omega
   exact⟨Decidable.byContradiction fun c=>h1 (.inl c),by
    cases hn:nameB (ls.getD i default).1
    ·exact absurd (.inr hn) h1
    ·rfl⟩
 ·by_cases hjk:j<k
  ·exact h.inj i j hij hjk
  ·obtain rfl:j=k:=by omega
   exact hd i hij
theorem LsOk.of_lets{ls:List (ByteArray × Ex)}{env:List (ByteArray × Int)}(h:letsG ls []=(env,0)):LsOk ls ls.length env:=by
 have key:∀k,k≤ls.length→∃e,LtAt ls k e∧LsOk ls k e:=by
  intro k
  induction k with
  |zero=>intro _;exact⟨[],LtAt.zero ls,LsOk.zero ls⟩
  |succ k ih=>
   intro hk
   obtain⟨e,h1,h2⟩:=ih (by omega)
   have hz:ltStep e (ls.getD k default)=0:=Decidable.byContradiction fun c=>by
    have hb:=h1.bad (by omega) c
    rw [h]at hb
    exact c (Prod.mk.inj hb).2.symm
   exact⟨_,h1.next (by omega) hz,h2.next h1 (by omega) hz⟩
 obtain⟨e,h1,h2⟩:=key ls.length (Nat.le_refl _)
 have hd:=h1.done
 rw [h]at hd
 rw [(Prod.mk.inj hd).1];exact h2
theorem LsOk.last{ls:List (ByteArray × Ex)}{k:Nat}{env:List (ByteArray × Int)}(h:LsOk ls k env){j:Nat}:∀i,j<i→i≤k→lastN (env.take i) (ls.getD j default).1=some (env.getD j default).2
 |0,hj,_=>by omega
 |i+1,hj,hi=>by
  have hl:=h.len
  rw [List.take_succ_eq_append_getElem (by omega),lastN_snoc]
  have hg:env[i]'(by omega)=env.getD i default:=by rw [List.getD_eq_getElem?_getD,List.getElem?_eq_getElem (by omega)];rfl
  rw [hg,h.nm i (by omega)]
  by_cases hji:j=i
  ·subst hji;rw [if_pos rfl]
  ·rw [if_neg (fun e=>h.inj j i (by omega) (by omega) e.symm)]
   exact h.last i (by omega) (by omega)
theorem LsOk.none{ls:List (ByteArray × Ex)}{k:Nat}{env:List (ByteArray × Int)}(h:LsOk ls k env){s:ByteArray}:∀i,i≤k→(∀j,j<i→(ls.getD j default).1≠s)→lastN (env.take i) s=none
 |0,_,_=>by simp [lastN]
 |i+1,hi,hs=>by
  have hl:=h.len
  rw [List.take_succ_eq_append_getElem (by omega),lastN_snoc]
  have hg:env[i]'(by omega)=env.getD i default:=by rw [List.getD_eq_getElem?_getD,List.getElem?_eq_getElem (by omega)];rfl
  rw [hg,h.nm i (by omega),if_neg (hs i (by omega))]
  exact h.none i (by omega) fun j hj=>hs j (by omega)
theorem LsOk.named{ls:List (ByteArray × Ex)}{k:Nat}{env:List (ByteArray × Int)}(h:LsOk ls k env){s:ByteArray}{i:Nat}(hi:i≤k)(ht:(inferN (env.take i) s).2=0):inpD s.toList≠0∨∃j,j<i∧(ls.getD j default).1=s:=by
 by_cases hs:inpD s.toList=0
 ·refine .inr (Decidable.byContradiction fun c=>?_)
  have:=h.none (s:=s) i hi fun j hj e=>c ⟨j,hj,e⟩
  unfold inferN at ht
  rw [if_neg (by simpa using hs),this]at ht
  cases ht
 ·exact .inl hs
structure StOk(ls:List (ByteArray × Ex))(env:List (ByteArray × Int))(D:List Nat)(st:List (ByteArray × Val)):Prop where
 ok:∀p∈st,p.2.ok=true
 dom:∀j∈D,j<ls.length
 look:∀j∈D,lastN (dimsOf st) (ls.getD j default).1=some (env.getD j default).2
 sub:∀j,j<ls.length→(st.any fun p=>decide (p.1=(ls.getD j default).1))=D.contains j
theorem StOk.zero(ls:List (ByteArray × Ex))(env:List (ByteArray × Int)):StOk ls env [] []:=⟨fun _ h=>(by cases h),fun _ h=>(by cases h),fun _ h=>(by cases h),fun _ _=>rfl⟩
theorem dims_snoc(st:List (ByteArray × Val))(p:ByteArray × Val):dimsOf (st++[p])=dimsOf st++[(p.1,p.2.dim)]:=by simp [dimsOf]
theorem StOk.push{ls:List (ByteArray × Ex)}{env:List (ByteArray × Int)}{D:List Nat}{st:List (ByteArray × Val)}(h:StOk ls env D st)(hl:LsOk ls ls.length env){i:Nat}(hi:i<ls.length)(hD:D.contains i=false){x:Val}(hx:x.ok=true)(hd:x.dim=(env.getD i default).2) :
 StOk ls env (D++[i]) (st++[((ls.getD i default).1,x)]):=by
 have ne:∀j,j<ls.length→j≠i→(ls.getD i default).1≠(ls.getD j default).1:=fun j hj hji=>by
  rcases Nat.lt_or_gt_of_ne hji with h1|h1
  ·exact fun e=>hl.inj j i h1 hi e.symm
  ·exact hl.inj i j h1 hj
 refine⟨fun p hp=>?_,fun j hj=>?_,fun j hj=>?_,fun j hj=>?_⟩
 ·rcases List.mem_append.1 hp with hp|hp
  ·exact h.ok p hp
  ·obtain rfl:p=_:=by simpa using hp
   exact hx
 ·rcases List.mem_append.1 hj with hj|hj
  ·exact h.dom j hj
  ·obtain rfl:j=i:=by simpa using hj
   exact hi
 ·rw [dims_snoc,lastN_snoc]
  rcases List.mem_append.1 hj with hj|hj
  ·have hji:j≠i:=fun e=>by
    have hc:D.contains j=true:=List.contains_iff_mem.2 hj
    rw [e,hD]at hc;cases hc
   rw [if_neg (ne j (h.dom j hj) hji)]
   exact h.look j hj
  ·obtain rfl:j=i:=by simpa using hj
   rw [if_pos rfl,hd]
 ·rw [List.any_append,h.sub j hj]
  by_cases hji:j=i
  ·subst hji;simp
  ·have:decide ((ls.getD i default).1=(ls.getD j default).1)=false:=decide_eq_false (ne j hj hji)
   rw [List.any_cons,List.any_nil,this,Bool.or_false,Bool.or_false,Bool.eq_iff_iff,List.contains_iff_mem,List.contains_iff_mem,List.mem_append]
   simp [hji]
theorem StOk.other{ls:List (ByteArray × Ex)}{env:List (ByteArray × Int)}{D:List Nat}{st:List (ByteArray × Val)}(h:StOk ls env D st)(hl:LsOk ls ls.length env){s:ByteArray}(hs:nameB s=false){x:Val}(hx:x.ok=true):StOk ls env D (st++[(s,x)]):=by
 have ne:∀j,j<ls.length→s≠(ls.getD j default).1:=fun j hj e=>by
  have:=(hl.word j hj).2
  rw [←e,hs]at this;cases this
 refine⟨fun p hp=>?_,h.dom,fun j hj=>?_,fun j hj=>?_⟩
 ·rcases List.mem_append.1 hp with hp|hp
  ·exact h.ok p hp
  ·obtain rfl:p=_:=by simpa using hp
   exact hx
 ·rw [dims_snoc,lastN_snoc,if_neg (ne j (h.dom j hj))]
  exact h.look j hj
 ·rw [List.any_append,h.sub j hj]
  have:decide (s=(ls.getD j default).1)=false:=decide_eq_false (ne j hj)
  rw [List.any_cons,List.any_nil,this,Bool.or_false,Bool.or_false]
theorem StOk.typed{ls:List (ByteArray × Ex)}{env:List (ByteArray × Int)}{D:List Nat}{st:List (ByteArray × Val)}(h:StOk ls env D st)(hl:LsOk ls ls.length env){i:Nat}(hi:i≤ls.length){e:Ex}(hf:formedB e=true)(ht:(inferF (env.take i) e).2=0)
 (hD:∀j,j<i→mentB (ls.getD j default).1 e=true→j∈D):inferF (dimsOf st) e=inferF (env.take i) e:=by
 refine infer_same e fun s hs=>?_
 rcases hl.named hi (infer_named e hf ht hs)with h0|⟨j,hj,rfl⟩
 ·unfold inferN;rw [if_pos h0,if_pos h0]
 ·unfold inferN
  rw [if_neg (by have:=(hl.word j (by omega)).1;simpa using this),if_neg (by have:=(hl.word j (by omega)).1;simpa using this),h.look j (hD j hj hs),hl.last i hj hi]
def runU(v:Vw)(ls:List (ByteArray × Ex)):List Nat→List Nat→List (ByteArray × Val)→List Nat × List (ByteArray × Val) × Int
 | [],D,st=>(D,st,0)
 |i::r,D,st=>if D.contains i=true then runU v ls r D st
  else if(valueF v st (ls.getD i default).2).2≠0 then(D,st,(valueF v st (ls.getD i default).2).2)
  else runU v ls r (D++[i]) (st++[((ls.getD i default).1,(valueF v st (ls.getD i default).2).1)])
theorem uses_need{e:Ex}{ls:List (ByteArray × Ex)}{j:Nat}(hj:j<ls.length):j∈usesL e ls↔needB e ls j (usesG e ls (ls.length-j-1))=true:=by
 have h1:=usesG_sub (e:=e) (ls:=ls) (i:=j) (ls.length-j-1+1) j (by omega) (by omega) hj
 rw [show ls.length-j-1+1+j=ls.length by omega]at h1
 have h2:=usesG_contains (e:=e) (ls:=ls) (ls.length-j-1) (by omega)
 rw [show ls.length-(ls.length-j-1+1)=j by omega]at h2
 unfold usesL
 rw [h1,←h2,List.contains_iff_mem]
theorem uses_direct{e:Ex}{ls:List (ByteArray × Ex)}{j:Nat}(hj:j<ls.length)(h:mentB (ls.getD j default).1 e=true):j∈usesL e ls:=by
 rw [uses_need hj];unfold needB;rw [h];rfl
theorem uses_closed{e:Ex}{ls:List (ByteArray × Ex)}{i j:Nat}(hi:i∈usesL e ls)(hji:j<i)(h:mentB (ls.getD j default).1 (ls.getD i default).2=true):j∈usesL e ls:=by
 have hil:i<ls.length:=(usesG_mem ls.length (Nat.le_refl _) i hi).2
 rw [uses_need (by omega)]
 unfold needB
 rw [Bool.or_eq_true]
 refine .inr (List.any_eq_true.2 ⟨i, ?_,h⟩)
 have h1:=usesG_sub (e:=e) (ls:=ls) (i:=i) (ls.length-j-1) (j+1) (by omega) (by omega) hil
 rw [show ls.length-j-1+(j+1)=ls.length by omega]at h1
 exact h1.1 hi
theorem uses_lt{e:Ex}{ls:List (ByteArray × Ex)}{i:Nat}(hi:i∈usesL e ls):i<ls.length:=(usesG_mem ls.length (Nat.le_refl _) i hi).2
structure RunAt(v:Vw)(ls:List (ByteArray × Ex))(env:List (ByteArray × Int))(e:Ex)(D0:List Nat)(st0:List (ByteArray × Val))(k:Nat)(D:List Nat)(st:List (ByteArray × Val)):Prop where
 ok:StOk ls env D st
 pre:∀j∈(usesL e ls).take k,j∈D
 run:runU v ls (usesL e ls) D0 st0=runU v ls ((usesL e ls).drop k) D st
theorem RunAt.zero{v:Vw}{ls:List (ByteArray × Ex)}{env:List (ByteArray × Int)}(e:Ex){D:List Nat}{st:List (ByteArray × Val)}(h:StOk ls env D st):RunAt v ls env e D st 0 D st:=⟨h,fun j hj=>by simp at hj,rfl⟩
section
variable {v : Vw} {ls : List (ByteArray × Ex)} {env : List (ByteArray × Int)} {e : Ex} {D0 D : List Nat} {st0 st : List (ByteArray × Val)} {k : Nat}
theorem uses_drop(hk:k<(usesL e ls).length):(usesL e ls).drop k=(usesL e ls).getD k 0::(usesL e ls).drop (k+1):=by
 exact lz19
theorem uses_at(hk:k<(usesL e ls).length):(usesL e ls).getD k 0∈usesL e ls:=by
 rw [List.getD_eq_getElem?_getD,List.getElem?_eq_getElem hk];exact List.getElem_mem hk
theorem uses_take(hk:k<(usesL e ls).length):(usesL e ls).take (k+1)=(usesL e ls).take k++[(usesL e ls).getD k 0]:=by
 exact lz36
theorem uses_before(hk:k<(usesL e ls).length){j:Nat}(hj:j∈usesL e ls)(hlt:j<(usesL e ls).getD k 0):j∈(usesL e ls).take k:=by
 obtain⟨m,hm,rfl⟩:=List.mem_iff_getElem.1 hj
 have hp:=usesG_asc (e:=e) (ls:=ls) ls.length (Nat.le_refl _)
 rw [List.getD_eq_getElem?_getD,List.getElem?_eq_getElem hk]at hlt
 refine List.mem_take_iff_getElem.2 ⟨m, ?_,rfl⟩
 rcases Nat.lt_or_ge m k with h|h
 ·omega
 ·exfalso
  rcases Nat.lt_or_eq_of_le h with h|h
  ·have:=List.pairwise_iff_getElem.1 hp k m hk hm h
   simp only [Option.getD_some]at hlt
   unfold usesL at hlt
   omega
  ·subst h;simp at hlt
theorem RunAt.skip(h:RunAt v ls env e D0 st0 k D st)(hk:k<(usesL e ls).length)(hc:D.contains ((usesL e ls).getD k 0)=true):RunAt v ls env e D0 st0 (k+1) D st:=
 ⟨h.ok,fun j hj=>by
  rw [uses_take hk]at hj
  rcases List.mem_append.1 hj with hj|hj
  ·exact h.pre j hj
  ·obtain rfl:j=_:=by simpa using hj
   exact List.contains_iff_mem.1 hc,by rw [h.run,uses_drop hk,runU,if_pos hc]⟩
theorem RunAt.typed(h:RunAt v ls env e D0 st0 k D st)(hl:LsOk ls ls.length env)(hk:k<(usesL e ls).length) :
 formedB (ls.getD ((usesL e ls).getD k 0) default).2=true∧inferF (dimsOf st) (ls.getD ((usesL e ls).getD k 0) default).2=((env.getD ((usesL e ls).getD k 0) default).2,0)∧validB (ls.getD ((usesL e ls).getD k 0) default).2=true:=by
 have hu:=uses_at hk
 have hil:=uses_lt hu
 have hb:=fun j (h1:j∈usesL e ls) h2=>uses_before hk h1 h2
 generalize(usesL e ls).getD k 0=i at *
 have ht:=hl.ty i hil
 unfold inferE at ht
 split at ht
 ·rename_i hv
  have hvb:=hv.1
  have hf:formedB (ls.getD i default).2=true:=by
   unfold validB at hvb;rw [Bool.and_eq_true]at hvb;exact hvb.2
  refine⟨hf, ?_,hvb⟩
  rw [h.ok.typed hl (by omega) hf (by rw [ht]) fun j hj hm=>h.pre j (hb j (uses_closed hu hj hm) hj),ht]
 ·have:=(Prod.mk.inj ht).2
  cases this
theorem RunAt.bad(h:RunAt v ls env e D0 st0 k D st)(hk:k<(usesL e ls).length)(hc:D.contains ((usesL e ls).getD k 0)=false)(hv:(valueF v st (ls.getD ((usesL e ls).getD k 0) default).2).2≠0) :
 runU v ls (usesL e ls) D0 st0=(D,st,(valueF v st (ls.getD ((usesL e ls).getD k 0) default).2).2):=by
 rw [h.run,uses_drop hk,runU,if_neg (by rw [hc];simp),if_pos hv]
theorem RunAt.next(h:RunAt v ls env e D0 st0 k D st)(hl:LsOk ls ls.length env)(hok:v.ok=true)(hk:k<(usesL e ls).length)(hc:D.contains ((usesL e ls).getD k 0)=false)(hv:(valueF v st (ls.getD ((usesL e ls).getD k 0) default).2).2=0) :
 RunAt v ls env e D0 st0 (k+1) (D++[(usesL e ls).getD k 0]) (st++[((ls.getD ((usesL e ls).getD k 0) default).1,(valueF v st (ls.getD ((usesL e ls).getD k 0) default).2).1)]):=by
 obtain⟨hf,ht,-⟩:=h.typed hl hk
 have hval:=value_ok hok h.ok.ok _ hf (by rw [ht])
 rw [ht]at hval
 obtain⟨hx,hd⟩:=hval.good hv
 refine⟨h.ok.push hl (uses_lt (uses_at hk)) hc hx hd,fun j hj=>?_, ?_⟩
 ·rw [uses_take hk]at hj
  rcases List.mem_append.1 hj with hj|hj
  ·exact List.mem_append.2 (.inl (h.pre j hj))
  ·exact List.mem_append.2 (.inr hj)
 ·rw [h.run,uses_drop hk,runU,if_neg (by rw [hc];simp),if_neg (by simpa using hv)]
theorem RunAt.done(h:RunAt v ls env e D0 st0 (usesL e ls).length D st):runU v ls (usesL e ls) D0 st0=(D,st,0):=by
 rw [h.run,List.drop_length,runU]
theorem RunAt.last(h:RunAt v ls env e D0 st0 (usesL e ls).length D st)(hl:LsOk ls ls.length env){m:Int}(hf:formedB e=true)(ht:inferF env e=(m,0)):inferF (dimsOf st) e=(m,0):=by
 have he:env.take ls.length=env:=List.take_of_length_le (by rw [hl.len];exact Nat.le_refl _)
 have:=h.ok.typed hl (Nat.le_refl _) hf (by rw [he,ht]) fun j hj hm=>h.pre j (by rw [List.take_length];exact uses_direct hj hm)
 rw [this,he,ht]
end
def defF(v:Vw)(ls:List (ByteArray × Ex))(e:Ex)(nm:ByteArray)(D:List Nat)(st:List (ByteArray × Val)):List Nat × List (ByteArray × Val) × Int:=
 if(runU v ls (usesL e ls) D st).2.2≠0 then runU v ls (usesL e ls) D st
 else if(valueF v (runU v ls (usesL e ls) D st).2.1 e).2≠0 then((runU v ls (usesL e ls) D st).1,(runU v ls (usesL e ls) D st).2.1,(valueF v (runU v ls (usesL e ls) D st).2.1 e).2)
 else((runU v ls (usesL e ls) D st).1,(runU v ls (usesL e ls) D st).2.1++[(nm,(valueF v (runU v ls (usesL e ls) D st).2.1 e).1)],0)
theorem drop_get{α:Type}[Inhabited α]{l:List α}{k:Nat}(hk:k<l.length):l.drop k=l.getD k default::l.drop (k+1):=by
 exact lz19
theorem take_get{α:Type}[Inhabited α]{l:List α}{k:Nat}(hk:k<l.length):l.take (k+1)=l.take k++[l.getD k default]:=by
 exact lz36
theorem take_has{l:List Int}{k:Nat}{x:Int}(hk:k≤l.length):(l.take k).contains x=(List.range k).any fun j=>decide (l.getD j 0=x):=by
 rw [Bool.eq_iff_iff,List.contains_iff_mem,List.any_eq_true]
 constructor
 ·intro h
  obtain⟨j,hj,rfl⟩:=List.mem_take_iff_getElem.1 h
  have:j<l.length:=by omega
  exact⟨j,List.mem_range.2 (by omega),by simp [List.getD_eq_getElem?_getD,List.getElem?_eq_getElem this]⟩
 ·rintro⟨j,hj,he⟩
  have hj:=List.mem_range.1 hj
  have:j<l.length:=by omega
  refine List.mem_take_iff_getElem.2 ⟨j,by omega, ?_⟩
  simpa [List.getD_eq_getElem?_getD,List.getElem?_eq_getElem this]using he
theorem dup_at{l:List Int}{k:Nat}(hk:k<l.length):dupG (l.take k) (l.drop k)=((l.take k).contains (l.getD k 0) || dupG (l.take (k+1)) (l.drop (k+1))):=by
 rw [drop_get hk,take_get hk,dupG];rfl
theorem dup_end{l:List Int}:dupG (l.take l.length) (l.drop l.length)=false:=by rw [List.drop_length,dupG]
theorem asc_iff:∀l:List Int,ascG l=true↔∀j,j+1<l.length→l.getD j 0<l.getD (j+1) 0
 | []=>by simp [ascG]
 | [x]=>by simp [ascG]
 |x::y::r=>by
  rw [ascG,Bool.and_eq_true,asc_iff (y::r)]
  constructor
  ·rintro⟨h1,h2⟩ j hj
   cases j with
   |zero=>simpa using h1
   |succ j=>simpa using h2 j (by simpa using hj)
  ·intro h
   exact⟨by simpa using h 0 (by simp),fun j hj=>by simpa using h (j+1) (by simpa using hj)⟩
theorem asc_no{l:List Int}{j:Nat}(h:j+1<l.length)(hle:l.getD (j+1) 0≤l.getD j 0):ascG l=false:=by
 rw [Bool.eq_false_iff]
 intro hc
 have:=(asc_iff l).1 hc j h
 omega
def grStep(env:List (ByteArray × Int))(pre:List Int)(g:Int × Ex × Ex):Int:=if pre.contains g.1=true then 10 else if needF env g.2.1 1≠0 then needF env g.2.1 1 else needF env g.2.2 4
theorem gr_bad{env:List (ByteArray × Int)}{l:List (Int × Ex × Ex)}{k:Nat}(hk:k<l.length)(h:grStep env ((l.take k).map Prod.fst) (l.getD k default)≠0):grG env ((l.take k).map Prod.fst) (l.drop k)=grStep env ((l.take k).map Prod.fst) (l.getD k default):=by
 rw [drop_get hk,grG]
 unfold grStep at h ⊢
 split
 ·rfl
 ·rename_i h1
  rw [if_neg h1]at h
  split
  ·rfl
  ·rename_i h2
   rw [if_neg h2]at h
   rw [if_pos h]
theorem gr_next{env:List (ByteArray × Int)}{l:List (Int × Ex × Ex)}{k:Nat}(hk:k<l.length)(h:grStep env ((l.take k).map Prod.fst) (l.getD k default)=0):grG env ((l.take k).map Prod.fst) (l.drop k)=grG env ((l.take (k+1)).map Prod.fst) (l.drop (k+1)):=by
 rw [drop_get hk,grG,take_get hk,List.map_append]
 unfold grStep at h
 split at h
 ·cases h
 ·rename_i h1
  rw [if_neg h1]
  split at h
  ·rename_i h2;exact absurd h h2
  ·rename_i h2
   rw [if_neg h2,if_neg (by simpa using h)]
   rfl
def reStep(env:List (ByteArray × Int))(pre:List Int)(g:Int × Ex):Int:=if pre.contains g.1=true then 10 else needF env g.2 2
theorem re_bad{env:List (ByteArray × Int)}{l:List (Int × Ex)}{k:Nat}(hk:k<l.length)(h:reStep env ((l.take k).map Prod.fst) (l.getD k default)≠0):reG env ((l.take k).map Prod.fst) (l.drop k)=reStep env ((l.take k).map Prod.fst) (l.getD k default):=by
 rw [drop_get hk,reG]
 unfold reStep at h ⊢
 split
 ·rfl
 ·rename_i h1
  rw [if_neg h1]at h
  rw [if_pos h]
theorem re_next{env:List (ByteArray × Int)}{l:List (Int × Ex)}{k:Nat}(hk:k<l.length)(h:reStep env ((l.take k).map Prod.fst) (l.getD k default)=0):reG env ((l.take k).map Prod.fst) (l.drop k)=reG env ((l.take (k+1)).map Prod.fst) (l.drop (k+1)):=by
 rw [drop_get hk,reG,take_get hk,List.map_append]
 unfold reStep at h
 split at h
 ·cases h
 ·rename_i h1
  rw [if_neg h1,if_neg (by simpa using h)]
  rfl
theorem vers_a{V:VerP}(h:(letsF V.le).2≠0):versF V=(letsF V.le).2:=by unfold versF;rw [if_pos h]
theorem vers_b{V:VerP}(h:(letsF V.le).2=0)(h1:dupG [] (V.cr.map Prod.fst)=true):versF V=10:=by unfold versF;rw [if_neg (by simpa using h),if_pos h1]
theorem vers_c{V:VerP}(h:(letsF V.le).2=0)(h1:dupG [] (V.cr.map Prod.fst)=false)(h2:ascG (V.se.map Prod.fst)=false):versF V=1:=by unfold versF;rw [if_neg (by simpa using h),if_neg (by simp [h1]),if_pos h2]
theorem vers_d{V:VerP}(h:(letsF V.le).2=0)(h1:dupG [] (V.cr.map Prod.fst)=false)(h2:ascG (V.se.map Prod.fst)=true)(h3:grG (letsF V.le).1 [] V.gr≠0):versF V=grG (letsF V.le).1 [] V.gr:=by
 unfold versF;rw [if_neg (by simpa using h),if_neg (by simp [h1]),if_neg (by simp [h2]),if_pos h3]
theorem vers_e{V:VerP}(h:(letsF V.le).2=0)(h1:dupG [] (V.cr.map Prod.fst)=false)(h2:ascG (V.se.map Prod.fst)=true)(h3:grG (letsF V.le).1 [] V.gr=0):versF V=reG (letsF V.le).1 [] V.re:=by
 unfold versF;rw [if_neg (by simpa using h),if_neg (by simp [h1]),if_neg (by simp [h2]),if_neg (by simpa using h3)]
def ifN:ByteArray:=⟨#[105,102]⟩
def payN:ByteArray:=⟨#[112,97,121]⟩
def byN:ByteArray:=⟨#[98,121]⟩
theorem kw_names:nameB ifN=false∧nameB payN=false∧nameB byN=false:=by decide+kernel
theorem inferE_ok{env:List (ByteArray × Int)}{e:Ex}{m:Int}(h:inferE env e=(m,0)):validB e=true∧formedB e=true∧inferF env e=(m,0):=by
 unfold inferE at h
 split at h
 ·rename_i hv
  have hvb:=hv.1
  refine⟨hvb, ?_,h⟩
  unfold validB at hvb;rw [Bool.and_eq_true]at hvb;exact hvb.2
 ·have:=(Prod.mk.inj h).2;cases this
theorem need_ok{env:List (ByteArray × Int)}{e:Ex}{want:Int}(h:needF env e want=0):inferE env e=(want,0):=by
 unfold needF at h
 split at h
 ·cases h
 ·rename_i h1
  refine Prod.ext (Decidable.byContradiction fun c=>h1 ⟨h,c⟩) h
theorem gr_typed{env:List (ByteArray × Int)}:∀(l:List (Int × Ex × Ex)) (pre:List Int),grG env pre l=0→∀g∈l,inferE env g.2.1=(1,0)∧inferE env g.2.2=(4,0)
 | [],_,_,_,h=>by cases h
 |g::r,pre,h,x,hx=>by
  rw [grG]at h
  split at h
  ·cases h
  split at h
  ·rename_i h1;exact absurd h h1
  rename_i h1
  split at h
  ·rename_i h2;exact absurd h h2
  rename_i h2
  rcases List.mem_cons.1 hx with rfl|hx
  ·exact⟨need_ok (Decidable.byContradiction h1),need_ok (Decidable.byContradiction h2)⟩
  ·exact gr_typed r _ h x hx
theorem re_typed{env:List (ByteArray × Int)}:∀(l:List (Int × Ex)) (pre:List Int),reG env pre l=0→∀g∈l,inferE env g.2=(2,0)
 | [],_,_,_,h=>by cases h
 |g::r,pre,h,x,hx=>by
  rw [reG]at h
  split at h
  ·cases h
  split at h
  ·rename_i h1;exact absurd h h1
  rename_i h1
  rcases List.mem_cons.1 hx with rfl|hx
  ·exact need_ok (Decidable.byContradiction h1)
  ·exact re_typed r _ h x hx
structure VerOk(V:VerP)(env:List (ByteArray × Int)):Prop where
 ls:LsOk V.le V.le.length env
 gr:∀g∈V.gr,inferE env g.2.1=(1,0)∧inferE env g.2.2=(4,0)
 re:∀g∈V.re,inferE env g.2=(2,0)
theorem VerOk.of{V:VerP}(h:versF V=0):VerOk V (letsF V.le).1:=by
 unfold versF at h
 split at h
 ·rename_i h1;exact absurd h h1
 rename_i h1
 split at h
 ·cases h
 split at h
 ·cases h
 split at h
 ·rename_i h2;exact absurd h h2
 rename_i h2
 have h0:(letsF V.le).2=0:=Decidable.byContradiction h1
 have hg:grG (letsF V.le).1 [] V.gr=0:=Decidable.byContradiction h2
 refine⟨?_,gr_typed _ _ hg,re_typed _ _ h⟩
 have hl:V.le.length≤10:=by
  unfold letsF at h0
  split at h0
  ·cases h0
  ·omega
 rw [letsF_len hl]at h0 ⊢
 exact LsOk.of_lets (Prod.ext rfl h0)
def lastV(st:List (ByteArray × Val)):Val:=(st.getLastD (⟨#[]⟩,.zero)).2
theorem lastV_snoc(st:List (ByteArray × Val))(p:ByteArray × Val):lastV (st++[p])=p.2:=by
 unfold lastV;simp
def grantS(v:Vw)(ls:List (ByteArray × Ex))(g:Int × Ex × Ex):(Bool × Int × Int) × List (ByteArray × Val) × Int:=
 if(defF v ls g.2.1 ifN [] []).2.2≠0 then((false,0,0),[],(defF v ls g.2.1 ifN [] []).2.2)
 else if(lastV (defF v ls g.2.1 ifN [] []).2.1).yes=false then((false,0,1),(defF v ls g.2.1 ifN [] []).2.1,0)
 else if(defF v ls g.2.2 payN (defF v ls g.2.1 ifN [] []).1 (defF v ls g.2.1 ifN [] []).2.1).2.2≠0 then((false,0,0),[],(defF v ls g.2.2 payN (defF v ls g.2.1 ifN [] []).1 (defF v ls g.2.1 ifN [] []).2.1).2.2)
 else((true,if(lastV (defF v ls g.2.2 payN (defF v ls g.2.1 ifN [] []).1 (defF v ls g.2.1 ifN [] []).2.1).2.1).n<0 then(0,1)else((lastV (defF v ls g.2.2 payN (defF v ls g.2.1 ifN [] []).1 (defF v ls g.2.1 ifN [] []).2.1).2.1).n,(lastV (defF v ls g.2.2 payN (defF v ls g.2.1 ifN [] []).1 (defF v ls g.2.1 ifN [] []).2.1).2.1).d)),(defF v ls g.2.2 payN (defF v ls g.2.1 ifN [] []).1 (defF v ls g.2.1 ifN [] []).2.1).2.1,0)
def grantF(V:VerP)(b:Int)(v:Vw):(Bool × Int × Int) × List (ByteArray × Val) × Int:=
 if v.ok=false then((false,0,0),[],1)else if versF V≠0 then((false,0,0),[],versF V)
 else match V.gr.find? fun g=>decide (g.1=b)with
 |none=>((false,0,0),[],9)
 |some g=>grantS v V.le g
section
variable {v : Vw} {ls : List (ByteArray × Ex)} {e : Ex} {nm : ByteArray} {D0 D D2 : List Nat} {st0 st st2 : List (ByteArray × Val)} {c : Int} {x p : Val} {g : Int × Ex × Ex}
theorem def_a(h:(runU v ls (usesL e ls) D0 st0).2.2=c)(hc:c≠0):(defF v ls e nm D0 st0).2.2=c:=by
 subst h;unfold defF;rw [if_pos hc]
theorem def_b(h:runU v ls (usesL e ls) D0 st0=(D,st,0))(hv:(valueF v st e).2=c)(hc:c≠0):(defF v ls e nm D0 st0).2.2=c:=by
 subst hv;unfold defF;rw [h,if_neg (by simp),if_pos hc]
theorem def_c(h:runU v ls (usesL e ls) D0 st0=(D,st,0))(hv:valueF v st e=(x,0)):defF v ls e nm D0 st0=(D,st++[(nm,x)],0):=by
 unfold defF;rw [h,if_neg (by simp),hv,if_neg (by simp)]
theorem grS_a(h:(defF v ls g.2.1 ifN [] []).2.2=c)(hc:c≠0):grantS v ls g=((false,0,0),[],c):=by
 subst h;unfold grantS;rw [if_pos hc]
theorem grS_c(h:defF v ls g.2.1 ifN [] []=(D,st++[(ifN,x)],0))(hx:x.yes=false):grantS v ls g=((false,0,1),st++[(ifN,x)],0):=by
 unfold grantS;rw [h,if_neg (by simp),lastV_snoc,if_pos hx]
theorem grS_d(h:defF v ls g.2.1 ifN [] []=(D,st++[(ifN,x)],0))(hx:x.yes=true)(h2:(defF v ls g.2.2 payN D (st++[(ifN,x)])).2.2=c)(hc:c≠0):grantS v ls g=((false,0,0),[],c):=by
 subst h2;unfold grantS;rw [h,if_neg (by simp),lastV_snoc,if_neg (by rw [hx];simp),if_pos hc]
theorem grS_f(h:defF v ls g.2.1 ifN [] []=(D,st++[(ifN,x)],0))(hx:x.yes=true)(h2:defF v ls g.2.2 payN D (st++[(ifN,x)])=(D2,st2++[(payN,p)],0)):grantS v ls g=((true,if p.n<0 then(0,1)else(p.n,p.d)),st2++[(payN,p)],0):=by
 unfold grantS;rw [h,if_neg (by simp),lastV_snoc,if_neg (by rw [hx];simp),h2,if_neg (by simp),lastV_snoc]
end
theorem find_at{β:Type}[Inhabited (Int × β)]{l:List (Int × β)}{b:Int}:∀k,k≤l.length→(∀j,j<k→(l.getD j default).1≠b)→l.find? (fun g=>decide (g.1=b))=(l.drop k).find? fun g=>decide (g.1=b)
 |0,_,_=>rfl
 |k+1,hk,hn=>by
  have hk':k<l.length:=by omega
  rw [find_at k (by omega) fun j hj=>hn j (by omega),drop_get hk',List.find?_cons,decide_eq_false (hn k (by omega))]
theorem find_some{β:Type}[Inhabited (Int × β)]{l:List (Int × β)}{b:Int}{k:Nat}(hk:k<l.length)(hn:∀j,j<k→(l.getD j default).1≠b)(hb:(l.getD k default).1=b):l.find? (fun g=>decide (g.1=b))=some (l.getD k default):=by
 rw [find_at k (by omega) hn,drop_get hk,List.find?_cons,decide_eq_true hb]
theorem find_none{β:Type}[Inhabited (Int × β)]{l:List (Int × β)}{b:Int}(hn:∀j,j<l.length→(l.getD j default).1≠b):l.find? (fun g=>decide (g.1=b))=none:=by
 rw [find_at l.length (Nat.le_refl _) hn,List.drop_length];rfl
theorem grF_view{V:VerP}{b:Int}{v:Vw}(h:v.ok=false):grantF V b v=((false,0,0),[],1):=by unfold grantF;rw [if_pos h]
theorem grF_ver{V:VerP}{b:Int}{v:Vw}(h:v.ok=true)(h2:versF V≠0):grantF V b v=((false,0,0),[],versF V):=by unfold grantF;rw [if_neg (by rw [h];simp),if_pos h2]
theorem grF_some{V:VerP}{b:Int}{v:Vw}{g:Int × Ex × Ex}(h:v.ok=true)(h2:versF V=0)(hf:V.gr.find? (fun g=>decide (g.1=b))=some g):grantF V b v=grantS v V.le g:=by unfold grantF;rw [if_neg (by rw [h];simp),if_neg (by simpa using h2),hf]
theorem grF_none{V:VerP}{b:Int}{v:Vw}(h:v.ok=true)(h2:versF V=0)(hf:V.gr.find? (fun g=>decide (g.1=b))=none):grantF V b v=((false,0,0),[],9):=by unfold grantF;rw [if_neg (by rw [h];simp),if_neg (by simpa using h2),hf]
theorem RunAt.of_run{v:Vw}{ls:List (ByteArray × Ex)}{env:List (ByteArray × Int)}{e:Ex}{D0 D:List Nat}{st0 st:List (ByteArray × Val)}(h:StOk ls env D0 st0)(hl:LsOk ls ls.length env)(hok:v.ok=true)(hr:runU v ls (usesL e ls) D0 st0=(D,st,0)):RunAt v ls env e D0 st0 (usesL e ls).length D st:=by
 have key:∀k,k≤(usesL e ls).length→∃D st,RunAt v ls env e D0 st0 k D st:=by
  intro k
  induction k with
  |zero=>intro _;exact⟨D0,st0,RunAt.zero e h⟩
  |succ k ih=>
   intro hk
   obtain⟨D1,st1,h1⟩:=ih (by omega)
   cases hc:D1.contains ((usesL e ls).getD k 0)
   ·by_cases hv:(valueF v st1 (ls.getD ((usesL e ls).getD k 0) default).2).2=0
    ·exact⟨_,_,h1.next hl hok (by omega) hc hv⟩
    ·have hb:=h1.bad (by omega) hc hv
     rw [hr]at hb
     exact absurd (Prod.mk.inj (Prod.mk.inj hb).2).2.symm hv
   ·exact⟨_,_,h1.skip (by omega) hc⟩
 obtain⟨D1,st1,h1⟩:=key _ (Nat.le_refl _)
 have hd:=h1.done
 rw [hr]at hd
 simp only [Prod.mk.injEq,and_true]at hd
 obtain⟨rfl,rfl⟩:=hd
 exact h1
end Go.Proofs.YthionhbjmheimaaDoor
