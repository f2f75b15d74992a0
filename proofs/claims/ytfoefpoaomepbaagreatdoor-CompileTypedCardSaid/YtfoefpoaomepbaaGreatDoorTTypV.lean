import Derived.Test.YtfoefpoaomepbaaGreatDoorTEvP
import Derived.Test.YtfoefpoaomepbaaGreatDoorTTop
import Derived.Test.YtfoefpoaomepbaaGreatDoorTSyN
set_option linter.all false
set_option maxHeartbeats 16000000
set_option maxRecDepth 1000000
namespace Go.Proofs.YtfoefpoaomepbaaGreatDoor
def letsG:List (ByteArray × Ex)→List (ByteArray × Int)→List (ByteArray × Int) × Int
 | [],env=>(env,0)
 |t::r,env=>
  if inpD t.1.toList≠0∨nameB t.1=false then([],5)
  else if env.any (fun p=>decide (p.1=t.1))=true then([],10)
  else if(inferE env t.2).2≠0 then([],(inferE env t.2).2)else letsG r (env++[(t.1,(inferE env t.2).1)])
def letsF(l:List (ByteArray × Ex)):List (ByteArray × Int) × Int:=if 10<l.length then([],7)else letsG l []
def needF(env:List (ByteArray × Int))(e:Ex)(want:Int):Int:=if(inferE env e).2=0∧(inferE env e).1≠want then 6 else(inferE env e).2
def dupG:List Int→List Int→Bool
 |_,[]=>false
 |pre,x::r=>pre.contains x || dupG (pre++[x]) r
def ascG:List Int→Bool
 | []=>true
 |x::r=>(match r with| []=>true|y::_=>decide (x<y))&&ascG r
def grG(env:List (ByteArray × Int)):List Int→List (Int × Ex × Ex)→Int
 |_,[]=>0
 |pre,g::r=>if pre.contains g.1=true then 10 else if needF env g.2.1 1≠0 then needF env g.2.1 1 else if needF env g.2.2 4≠0 then needF env g.2.2 4 else grG env (pre++[g.1]) r
def reG(env:List (ByteArray × Int)):List Int→List (Int × Ex)→Int
 |_,[]=>0
 |pre,g::r=>if pre.contains g.1=true then 10 else if needF env g.2 2≠0 then needF env g.2 2 else reG env (pre++[g.1]) r
def versF(V:VerP):Int:=
 if(letsF V.le).2≠0 then(letsF V.le).2
 else if dupG [] (V.cr.map Prod.fst)=true then 10
 else if ascG (V.se.map Prod.fst)=false then 1
 else if grG (letsF V.le).1 [] V.gr≠0 then grG (letsF V.le).1 [] V.gr
 else reG (letsF V.le).1 [] V.re
structure LtAt(ls:List (ByteArray × Ex))(k:Nat)(env:List (ByteArray × Int)):Prop where
 all:letsG ls []=letsG (ls.drop k) env
 len:env.length=k
 nm:env.map Prod.fst=(ls.take k).map Prod.fst
theorem LtAt.zero(ls:List (ByteArray × Ex)):LtAt ls 0 []:=⟨rfl,rfl,by simp⟩
def ltStep(env:List (ByteArray × Int))(t:ByteArray × Ex):Int:=
 if inpD t.1.toList≠0∨nameB t.1=false then 5 else if env.any (fun p=>decide (p.1=t.1))=true then 10 else(inferE env t.2).2
theorem LtAt.drop{ls:List (ByteArray × Ex)}{k:Nat}(hk:k<ls.length):ls.drop k=ls.getD k default::ls.drop (k+1):=by
 rw [List.drop_eq_getElem_cons hk,List.getD_eq_getElem?_getD,List.getElem?_eq_getElem hk];rfl
theorem LtAt.bad{ls:List (ByteArray × Ex)}{k:Nat}{env:List (ByteArray × Int)}(h:LtAt ls k env)(hk:k<ls.length)(hb:ltStep env (ls.getD k default)≠0):letsG ls []=([],ltStep env (ls.getD k default)):=by
 rw [h.all,LtAt.drop hk,letsG]
 unfold ltStep at hb ⊢
 split
 ·rfl
 ·rename_i h1
  rw [if_neg h1]at hb
  split
  ·rfl
  ·rename_i h2
   rw [if_neg h2]at hb
   rw [if_pos hb]
theorem LtAt.next{ls:List (ByteArray × Ex)}{k:Nat}{env:List (ByteArray × Int)}(h:LtAt ls k env)(hk:k<ls.length)(hb:ltStep env (ls.getD k default)=0):LtAt ls (k+1) (env++[((ls.getD k default).1,(inferE env (ls.getD k default).2).1)]):=by
 refine⟨?_,by rw [List.length_append,h.len];rfl, ?_⟩
 ·rw [h.all,LtAt.drop hk,letsG]
  unfold ltStep at hb
  split at hb
  ·cases hb
  ·rename_i h1
   rw [if_neg h1]
   split at hb
   ·cases hb
   ·rename_i h2
    rw [if_neg h2,if_neg (by simpa using hb)]
 ·rw [List.map_append,h.nm,List.take_succ_eq_append_getElem hk,List.map_append]
  simp [List.getD_eq_getElem?_getD,List.getElem?_eq_getElem hk]
theorem LtAt.done{ls:List (ByteArray × Ex)}{env:List (ByteArray × Int)}(h:LtAt ls ls.length env):letsG ls []=(env,0):=by
 rw [h.all,List.drop_length,letsG]
theorem LtAt.dup{ls:List (ByteArray × Ex)}{k:Nat}{env:List (ByteArray × Int)}(h:LtAt ls k env)(hk:k≤ls.length)(s:ByteArray):env.any (fun p=>decide (p.1=s))=(List.range k).any fun j=>decide ((ls.getD j default).1=s):=by
 have h1:env.any (fun p=>decide (p.1=s))=(env.map Prod.fst).any fun x=>decide (x=s):=by rw [List.any_map];rfl
 rw [h1,h.nm,List.any_map,Bool.eq_iff_iff,List.any_eq_true,List.any_eq_true]
 constructor
 ·rintro⟨t,ht,hs⟩
  obtain⟨j,hj,rfl⟩:=List.mem_take_iff_getElem.1 ht
  have:j<ls.length:=by omega
  exact⟨j,List.mem_range.2 (by omega),by simpa [List.getD_eq_getElem?_getD,List.getElem?_eq_getElem this]using hs⟩
 ·rintro⟨j,hj,hs⟩
  have hj:=List.mem_range.1 hj
  have:j<ls.length:=by omega
  exact⟨ls[j],List.mem_take_iff_getElem.2 ⟨j,by omega,rfl⟩,by simpa [List.getD_eq_getElem?_getD,List.getElem?_eq_getElem this]using hs⟩
theorem letsF_len{ls:List (ByteArray × Ex)}(h:ls.length≤10):letsF ls=letsG ls []:=by unfold letsF;rw [if_neg (by omega)]
mutual
theorem infer_same{a b:List (ByteArray × Int)}:∀e:Ex,(∀s,mentB s e=true→inferN b s=inferN a s)→inferF b e=inferF a e
 | .mk op n d m s l,h=>by
   rw [inferF,inferF,infers_same l (fun x hx=>h x (by rw [mentB,hx,Bool.or_true]))]
   by_cases h2:op=2
   ·subst h2;rw [h s (by simp [mentB])]
   ·exact infNode_name h2
theorem infers_same{a b:List (ByteArray × Int)}:∀l:List Ex,(∀s,mentsB s l=true→inferN b s=inferN a s)→infersF b l=infersF a l
 | [],_=>by rw [infersF,infersF]
 |e::r,h=>by rw [infersF,infersF,infer_same e (fun x hx=>h x (by rw [mentsB,hx,Bool.true_or])),infers_same r (fun x hx=>h x (by rw [mentsB,hx,Bool.or_true]))]
end
theorem formed_leaf{op n d m:Int}{s:ByteArray}{l:List Ex}(h:formedB (.mk op n d m s l)=true)(ho:op=1∨op=2∨op=3):l= []:=by
 rw [formedB_eq,Bool.and_eq_true]at h
 have h1:(l.length:Int)=argsN op:=of_decide_eq_true h.1
 have h0:argsN op=0:=by unfold argsN;rw [if_pos (by omega)]
 exact List.eq_nil_of_length_eq_zero (by omega)
theorem formed_sub{op n d m:Int}{s:ByteArray}{l:List Ex}(h:formedB (.mk op n d m s l)=true)(h1:op≠1)(h2:op≠2)(h3:op≠3):formedsB l=true:=by
 rw [formedB_eq,Bool.and_eq_true]at h
 have:=h.2
 rw [if_neg (by exact h1),if_neg (by exact h2),if_neg (by exact h3),Bool.and_eq_true]at this
 exact this.1
mutual
theorem infer_named{a:List (ByteArray × Int)}{s:ByteArray}:∀e:Ex,formedB e=true→(inferF a e).2=0→mentB s e=true→(inferN a s).2=0
 | .mk op n d m nm l,hf,hi,hm=>by
   by_cases ho:op=1∨op=2∨op=3
   ·have hl:=formed_leaf hf ho
    subst hl
    rw [mentB,mentsB,Bool.or_false,Bool.and_eq_true]at hm
    have h2:op=2:=of_decide_eq_true hm.1
    have hs:nm=s:=of_decide_eq_true hm.2
    subst h2 hs
    rw [inferF]at hi
    exact hi
   ·have h1:op≠1:=fun h=>ho (.inl h)
    have h2:op≠2:=fun h=>ho (.inr (.inl h))
    have h3:op≠3:=fun h=>ho (.inr (.inr h))
    rw [mentB,decide_eq_false h2,Bool.false_and,Bool.false_or]at hm
    refine infers_named l (formed_sub hf h1 h2 h3) ?_ hm
    rw [inferF]at hi
    unfold infNode at hi
    rw [if_neg h1,if_neg h3,if_neg h2]at hi
    by_cases hr:(infersF a l).2=0
    ·exact hr
    ·rw [if_pos hr]at hi;exact hi
theorem infers_named{a:List (ByteArray × Int)}{s:ByteArray}:∀l:List Ex,formedsB l=true→(infersF a l).2=0→mentsB s l=true→(inferN a s).2=0
 | [],_,_,hm=>by rw [mentsB]at hm;cases hm
 |e::r,hf,hi,hm=>by
  rw [formedsB,Bool.and_eq_true]at hf
  rw [infersF]at hi
  have h1:(inferF a e).2=0:=by
   by_cases h:(inferF a e).2=0
   ·exact h
   ·rw [if_pos h]at hi;exact hi
  have h2:(infersF a r).2=0:=by
   rw [if_neg (by simpa using h1)]at hi
   by_cases h:(infersF a r).2=0
   ·exact h
   ·rw [if_pos h]at hi;exact hi
  rw [mentsB,Bool.or_eq_true]at hm
  rcases hm with hm|hm
  ·exact infer_named e hf.1 h1 hm
  ·exact infers_named r hf.2 h2 hm
end
theorem lastN_snoc{α:Type}(l:List (ByteArray × α))(p:ByteArray × α)(s:ByteArray):lastN (l++[p]) s=if p.1=s then some p.2 else lastN l s:=by
 unfold lastN
 rw [List.reverse_append,List.reverse_singleton,List.singleton_append,List.find?_cons]
 by_cases h:p.1=s
 ·rw [if_pos h,decide_eq_true h];rfl
 ·rw [if_neg h,decide_eq_false h]
structure LsOk(ls:List (ByteArray × Ex))(k:Nat)(env:List (ByteArray × Int)):Prop where
 len:env.length=k
 nm:∀i,i<k→(env.getD i default).1=(ls.getD i default).1
 ty:∀i,i<k→inferE (env.take i) (ls.getD i default).2=((env.getD i default).2,0)
 word:∀i,i<k→inpD (ls.getD i default).1.toList=0∧nameB (ls.getD i default).1=true
 inj:∀i j,i<j→j<k→(ls.getD i default).1≠(ls.getD j default).1
theorem LsOk.zero(ls:List (ByteArray × Ex)):LsOk ls 0 []:=⟨rfl,fun i h=>by omega,fun i h=>by omega,fun i h=>by omega,fun i j _ h=>by omega⟩
theorem getD_snoc{α:Type}[Inhabited α]{l:List α}{x:α}{i:Nat}:(l++[x]).getD i default=if i<l.length then l.getD i default else if i=l.length then x else default:=by
 simp only [List.getD_eq_getElem?_getD]
 by_cases h:i<l.length
 ·rw [if_pos h,List.getElem?_append_left h]
 ·rw [if_neg h,List.getElem?_append_right (by omega)]
  by_cases h2:i=l.length
  ·subst h2;simp
  ·rw [if_neg h2,List.getElem?_eq_none (by simp;omega)];rfl
theorem LsOk.next{ls:List (ByteArray × Ex)}{k:Nat}{env:List (ByteArray × Int)}(h:LsOk ls k env)(ha:LtAt ls k env)(hk:k<ls.length)(hb:ltStep env (ls.getD k default)=0) :
 LsOk ls (k+1) (env++[((ls.getD k default).1,(inferE env (ls.getD k default).2).1)]):=by
 have hl:=h.len
 unfold ltStep at hb
 split at hb
 ·cases hb
 rename_i h1
 split at hb
 ·cases hb
 rename_i h2
 have hdup:=ha.dup (by omega) (ls.getD k default).1
 have hd:∀j,j<k→(ls.getD j default).1≠(ls.getD k default).1:=fun j hj he=>by
  rw [hdup]at h2
  exact h2 (List.any_eq_true.2 ⟨j,List.mem_range.2 hj,decide_eq_true he⟩)
 refine⟨by rw [List.length_append,hl];rfl,fun i hi=>?_,fun i hi=>?_,fun i hi=>?_,fun i j hij hj=>?_⟩
 ·rw [getD_snoc]
  by_cases hik:i<k
  ·rw [if_pos (by omega)];exact h.nm i hik
  ·rw [if_neg (by omega),if_pos (by omega)]
   show(ls.getD k default).1=_
   rw [show i=k by omega]
 ·by_cases hik:i<k
  ·rw [List.take_append_of_le_length (by omega),getD_snoc,if_pos (by omega)];exact h.ty i hik
  ·obtain rfl:i=k:=by omega
   rw [List.take_append_of_le_length (by omega),List.take_of_length_le (by omega),getD_snoc,if_neg (by omega),if_pos hl.symm]
   exact Prod.ext rfl hb
 ·by_cases hik:i<k
  ·exact h.word i hik
  ·obtain rfl:i=k:=by omega
   exact⟨Decidable.byContradiction fun c=>h1 (.inl c),by
    cases hn:nameB (ls.getD i default).1
    ·exact absurd (.inr hn) h1
    ·rfl⟩
 ·by_cases hjk:j<k
  ·exact h.inj i j hij hjk
  ·obtain rfl:j=k:=by omega
   exact hd i hij
theorem LsOk.of_lets{ls:List (ByteArray × Ex)}{env:List (ByteArray × Int)}(h:letsG ls []=(env,0)):LsOk ls ls.length env:=by
 have key:∀k,k≤ls.length→∃e,LtAt ls k e∧LsOk ls k e:=by
  intro k
  induction k with
  |zero=>intro _;exact⟨[],LtAt.zero ls,LsOk.zero ls⟩
  |succ k ih=>
   intro hk
   obtain⟨e,h1,h2⟩:=ih (by omega)
   have hz:ltStep e (ls.getD k default)=0:=Decidable.byContradiction fun c=>by
    have hb:=h1.bad (by omega) c
    rw [h]at hb
    exact c (Prod.mk.inj hb).2.symm
   exact⟨_,h1.next (by omega) hz,h2.next h1 (by omega) hz⟩
 obtain⟨e,h1,h2⟩:=key ls.length (Nat.le_refl _)
 have hd:=h1.done
 rw [h]at hd
 rw [(Prod.mk.inj hd).1];exact h2
theorem LsOk.last{ls:List (ByteArray × Ex)}{k:Nat}{env:List (ByteArray × Int)}(h:LsOk ls k env){j:Nat}:∀i,j<i→i≤k→lastN (env.take i) (ls.getD j default).1=some (env.getD j default).2
 |0,hj,_=>by omega
 |i+1,hj,hi=>by
  have hl:=h.len
  rw [List.take_succ_eq_append_getElem (by omega),lastN_snoc]
  have hg:env[i]'(by omega)=env.getD i default:=by rw [List.getD_eq_getElem?_getD,List.getElem?_eq_getElem (by omega)];rfl
  rw [hg,h.nm i (by omega)]
  by_cases hji:j=i
  ·subst hji;rw [if_pos rfl]
  ·rw [if_neg (fun e=>h.inj j i (by omega) (by omega) e.symm)]
   exact h.last i (by omega) (by omega)
theorem LsOk.none{ls:List (ByteArray × Ex)}{k:Nat}{env:List (ByteArray × Int)}(h:LsOk ls k env){s:ByteArray}:∀i,i≤k→(∀j,j<i→(ls.getD j default).1≠s)→lastN (env.take i) s=none
 |0,_,_=>by simp [lastN]
 |i+1,hi,hs=>by
  have hl:=h.len
  rw [List.take_succ_eq_append_getElem (by omega),lastN_snoc]
  have hg:env[i]'(by omega)=env.getD i default:=by rw [List.getD_eq_getElem?_getD,List.getElem?_eq_getElem (by omega)];rfl
  rw [hg,h.nm i (by omega),if_neg (hs i (by omega))]
  exact h.none i (by omega) fun j hj=>hs j (by omega)
theorem LsOk.named{ls:List (ByteArray × Ex)}{k:Nat}{env:List (ByteArray × Int)}(h:LsOk ls k env){s:ByteArray}{i:Nat}(hi:i≤k)(ht:(inferN (env.take i) s).2=0):inpD s.toList≠0∨∃j,j<i∧(ls.getD j default).1=s:=by
 by_cases hs:inpD s.toList=0
 ·refine .inr (Decidable.byContradiction fun c=>?_)
  have:=h.none (s:=s) i hi fun j hj e=>c ⟨j,hj,e⟩
  unfold inferN at ht
  rw [if_neg (by simpa using hs),this]at ht
  cases ht
 ·exact .inl hs
structure StOk(ls:List (ByteArray × Ex))(env:List (ByteArray × Int))(D:List Nat)(st:List (ByteArray × Val)):Prop where
 ok:∀p∈st,p.2.ok=true
 dom:∀j∈D,j<ls.length
 look:∀j∈D,lastN (dimsOf st) (ls.getD j default).1=some (env.getD j default).2
 sub:∀j,j<ls.length→(st.any fun p=>decide (p.1=(ls.getD j default).1))=D.contains j
theorem StOk.zero(ls:List (ByteArray × Ex))(env:List (ByteArray × Int)):StOk ls env [] []:=⟨fun _ h=>(by cases h),fun _ h=>(by cases h),fun _ h=>(by cases h),fun _ _=>rfl⟩
theorem dims_snoc(st:List (ByteArray × Val))(p:ByteArray × Val):dimsOf (st++[p])=dimsOf st++[(p.1,p.2.dim)]:=by simp [dimsOf]
theorem StOk.push{ls:List (ByteArray × Ex)}{env:List (ByteArray × Int)}{D:List Nat}{st:List (ByteArray × Val)}(h:StOk ls env D st)(hl:LsOk ls ls.length env){i:Nat}(hi:i<ls.length)(hD:D.contains i=false){x:Val}(hx:x.ok=true)(hd:x.dim=(env.getD i default).2) :
 StOk ls env (D++[i]) (st++[((ls.getD i default).1,x)]):=by
 have ne:∀j,j<ls.length→j≠i→(ls.getD i default).1≠(ls.getD j default).1:=fun j hj hji=>by
  rcases Nat.lt_or_gt_of_ne hji with h1|h1
  ·exact fun e=>hl.inj j i h1 hi e.symm
  ·exact hl.inj i j h1 hj
 refine⟨fun p hp=>?_,fun j hj=>?_,fun j hj=>?_,fun j hj=>?_⟩
 ·rcases List.mem_append.1 hp with hp|hp
  ·exact h.ok p hp
  ·obtain rfl:p=_:=by simpa using hp
   exact hx
 ·rcases List.mem_append.1 hj with hj|hj
  ·exact h.dom j hj
  ·obtain rfl:j=i:=by simpa using hj
   exact hi
 ·rw [dims_snoc,lastN_snoc]
  rcases List.mem_append.1 hj with hj|hj
  ·have hji:j≠i:=fun e=>by
    have hc:D.contains j=true:=List.contains_iff_mem.2 hj
    rw [e,hD]at hc;cases hc
   rw [if_neg (ne j (h.dom j hj) hji)]
   exact h.look j hj
  ·obtain rfl:j=i:=by simpa using hj
   rw [if_pos rfl,hd]
 ·rw [List.any_append,h.sub j hj]
  by_cases hji:j=i
  ·subst hji;simp
  ·have:decide ((ls.getD i default).1=(ls.getD j default).1)=false:=decide_eq_false (ne j hj hji)
   rw [List.any_cons,List.any_nil,this,Bool.or_false,Bool.or_false,Bool.eq_iff_iff,List.contains_iff_mem,List.contains_iff_mem,List.mem_append]
   simp [hji]
theorem StOk.other{ls:List (ByteArray × Ex)}{env:List (ByteArray × Int)}{D:List Nat}{st:List (ByteArray × Val)}(h:StOk ls env D st)(hl:LsOk ls ls.length env){s:ByteArray}(hs:nameB s=false){x:Val}(hx:x.ok=true):StOk ls env D (st++[(s,x)]):=by
 have ne:∀j,j<ls.length→s≠(ls.getD j default).1:=fun j hj e=>by
  have:=(hl.word j hj).2
  rw [←e,hs]at this;cases this
 refine⟨fun p hp=>?_,h.dom,fun j hj=>?_,fun j hj=>?_⟩
 ·rcases List.mem_append.1 hp with hp|hp
  ·exact h.ok p hp
  ·obtain rfl:p=_:=by simpa using hp
   exact hx
 ·rw [dims_snoc,lastN_snoc,if_neg (ne j (h.dom j hj))]
  exact h.look j hj
 ·rw [List.any_append,h.sub j hj]
  have:decide (s=(ls.getD j default).1)=false:=decide_eq_false (ne j hj)
  rw [List.any_cons,List.any_nil,this,Bool.or_false,Bool.or_false]
theorem StOk.typed{ls:List (ByteArray × Ex)}{env:List (ByteArray × Int)}{D:List Nat}{st:List (ByteArray × Val)}(h:StOk ls env D st)(hl:LsOk ls ls.length env){i:Nat}(hi:i≤ls.length){e:Ex}(hf:formedB e=true)(ht:(inferF (env.take i) e).2=0)
 (hD:∀j,j<i→mentB (ls.getD j default).1 e=true→j∈D):inferF (dimsOf st) e=inferF (env.take i) e:=by
 refine infer_same e fun s hs=>?_
 rcases hl.named hi (infer_named e hf ht hs)with h0|⟨j,hj,rfl⟩
 ·unfold inferN;rw [if_pos h0,if_pos h0]
 ·unfold inferN
  rw [if_neg (by have:=(hl.word j (by omega)).1;simpa using this),if_neg (by have:=(hl.word j (by omega)).1;simpa using this),h.look j (hD j hj hs),hl.last i hj hi]
end Go.Proofs.YtfoefpoaomepbaaGreatDoor
namespace Go.Proofs.YtfoefpoaomepbaaGreatDoor
open Go.RowKit
def frI(r:Int × Int):Value:=.tuple #[.int .i64 r.1,.int .i64 r.2]
theorem floor_tdiv{n d:Int}(h:1≤d):n / d=n.tdiv d∨n / d=n.tdiv d-1:=by
 rw [←floor_mod h];split<;>simp
theorem Floor2_any(n d:Int)(w:World)(h1:-9223372036854775808≤n)(h2:n≤9223372036854775807)(h3:-9223372036854775808≤d)(h4:d≤9223372036854775807) :
 Calls Tryz.prog 138 #[.agg #[.int .i64 n,.int .i64 d]] w fun e w'=>e= .returned (frI (floorF n d))∧w.Grows w':=by
 have hv:=Lib.hid (fun w=>Valid2_any n d w h1 h2 h3 h4)
 generalize hx:vfrac n d=b at *
 cases b
 ·have HR:=Lib.hid (show floorF n d=(0,1)by unfold floorF;rw [hx];rfl)
  clear hx
  go_enter Tryz.func138,Tryz.ntmps138
  go_wp2_with fail
  refine(hv.out _).mono ?_
  rintro e w' ⟨rfl,bs,dr,rfl⟩
  clear hv
  go_wp2_with fail
  go_returns
  exact⟨by rw [HR.out];rfl,.of_below belB⟩
 ·have HR:=Lib.hid (show floorF n d=(n / d,0)by unfold floorF;rw [hx];rfl)
  obtain⟨k1,k2,k3,k4⟩:=vfrac_bd hx
  have hf:=floor_bd hx
  have HF:=Lib.hid (floor_mod (n:=n) k1)
  have hft:=floor_tdiv (n:=n) k1
  have hq1:-1000000000000001≤n.tdiv d:=by omega
  have hq2:n.tdiv d≤1000000000000001:=by omega
  have d0:(d==0)=false:=by simp;omega
  clear hx hf hft
  have e1:IntKind.i64.wrap (n.tdiv d)=n.tdiv d:=IntWalk.i64_in _ (by omega)
  generalize n / d=z at *
  by_cases c:n.tmod d<0
  focus
   have HZ:=Lib.hid (show z=n.tdiv d-1 by rw [←HF.out,if_pos c])
  rotate_left
  focus
   have HZ:=Lib.hid (show z=n.tdiv d by rw [←HF.out,if_neg c])
  rotate_left
  all_goals
   clear HF
   go_enter Tryz.func138,Tryz.ntmps138
   go_wp2_with fail
   refine(hv.out _).mono ?_
   rintro e w' ⟨rfl,bs,dr,rfl⟩
   clear hv
   go_wp2_with fail
   go_returns
   exact⟨by rw [HR.out,HZ.out];rfl,.of_below belB⟩
def cmpR(s p q:Bool):Int:=if s then(if q then -1 else if p then 1 else 0)else(if p then -1 else if q then 1 else 0)
theorem cmp2_core(an ad bn bd xh xl yh yl:Int)(s p q:Bool)(w:World)(hs1:decide (an<0)=s)(hs2:decide (bn<0)=s)
 (V1:Hid (∀w,Calls Tryz.prog 175 #[.agg #[.int .i64 an,.int .i64 ad]] w fun e w'=>e= .returned (.bool true)∧w.Grows w')) (V2:Hid (∀w,Calls Tryz.prog 175 #[.agg #[.int .i64 bn,.int .i64 bd]] w fun e w'=>e= .returned (.bool true)∧w.Grows w'))
 (Z:Hid (∀n,I64 n→∀w,Calls Tryz.prog 177 #[.int .i64 n] w fun e w'=>e= .returned (.int .u64 (absI n))∧w=w')) (I1:I64 an) (I2:I64 ad) (I3:I64 bn) (I4:I64 bd)
 (T1:Hid (∀w,Calls Tryz.prog 176 #[.int .u64 (absI an),.int .u64 (absI bd)] w fun e w'=>e= .returned (.agg #[.int .u64 xh,.int .u64 xl])∧w.Grows w')) (T2:Hid (∀w,Calls Tryz.prog 176 #[.int .u64 (absI bn),.int .u64 (absI ad)] w fun e w'=>e= .returned (.agg #[.int .u64 yh,.int .u64 yl])∧w.Grows w'))
 (L1:Hid (∀w,Calls Tryz.prog 179 #[.agg #[.int .u64 xh,.int .u64 xl],.agg #[.int .u64 yh,.int .u64 yl]] w fun e w'=>e= .returned (.bool p)∧w.Grows w')) (L2:Hid (∀w,Calls Tryz.prog 179 #[.agg #[.int .u64 yh,.int .u64 yl],.agg #[.int .u64 xh,.int .u64 xl]] w fun e w'=>e= .returned (.bool q)∧w.Grows w'))
 :Calls Tryz.prog 143 #[.agg #[.int .i64 an,.int .i64 ad],.agg #[.int .i64 bn,.int .i64 bd]] w fun e w'=>e= .returned (frI (cmpR s p q,0))∧w.Grows w':=by
 cases s<;>
 ·go_enter Tryz.func143,Tryz.ntmps143
  go_wp2_with (first|(go_at_call 175;(with_reducible refine(V1.out _).mono ?_);rintro e w' ⟨rfl,bs,dr,rfl⟩)|(go_at_call 175;(with_reducible refine(V2.out _).mono ?_);rintro e w' ⟨rfl,bs2,dr2,rfl⟩))
  clear V1 V2
  obtain⟨W,hW⟩:∃W,(((w.alloc (.cells #[.int .i64 an,.int .i64 ad] 24)).alloc (.cells #[.int .i64 bn,.int .i64 bd] 24)).grow (bs++bs2) dr2)=W:=⟨_,rfl⟩
  have x0:W.cell? ⟨w.heap.size,0,none⟩=some (.int .i64 an):=by rw [←hW];simp [go_sem]
  have x1:W.cell? ⟨w.heap.size,1,none⟩=some (.int .i64 ad):=by rw [←hW];simp [go_sem]
  have x2:W.cell? ⟨w.heap.size+1,0,none⟩=some (.int .i64 bn):=by rw [←hW];simp [go_sem]
  have x3:W.cell? ⟨w.heap.size+1,1,none⟩=some (.int .i64 bd):=by rw [←hW];simp [go_sem]
  have hbw:Below w.heap.size w W:=by rw [←hW];(exact belB)
  have hz0:w.heap.size<W.heap.size:=by rw [←hW];simp;omega
  have hz1:w.heap.size+1<W.heap.size:=by rw [←hW];simp;omega
  rw [hW]
  clear hW
  apply wp_region_made2 16 (14,6,.cells #[.int .u64 0,.int .u64 0] 221) (15,7,.cells #[.int .u64 0,.int .u64 0] 221) (by kernel_rfl) (by kernel_rfl)
  case hrx=>
   intro o ho ρ w
   obtain rfl:=Option.some.inj ho
   simp [go_sem]
  case hry=>
   intro o ho ρ w
   obtain rfl:=Option.some.inj ho
   simp [go_sem]
  case h1=>
   intro bs d
   simp only [List.take_succ_cons,List.take_zero,List.map_cons,List.map_nil,Oper.mask]
   repeat(go_big_quiet_step ((first|(go_at_call 177;(with_reducible exact Calls.quietMS (Z.out _ (by assumption) _)))|(go_at_call 176;first|(with_reducible exact Calls.quietM (T1.out _))|(with_reducible exact Calls.quietM (T2.out _))))))
   exact wpQuiet_nil rfl
  all_goals
   intro gb1 gd1 gb2 gd2 gb gd
   simp only [List.drop_succ_cons,List.drop_zero,Act.put,List.setIfInBounds_toArray,List.set_cons_zero,List.set_cons_succ]
  all_goals
   clear T1 T2 Z
   cases p<;>cases q
  all_goals
   go_wp2_with (first|(go_at_call 179;(with_reducible refine(L1.out _).mono ?_);rintro e w' ⟨rfl,bs3,dr3,rfl⟩)|(go_at_call 179;(with_reducible refine(L2.out _).mono ?_);rintro e w' ⟨rfl,bs4,dr4,rfl⟩))
   go_returns
   exact⟨rfl,.of_below belB⟩
theorem cmp2_no(an ad bn bd:Int)(p q:Bool)(w:World)(hpq:(p&&q)=false)
 (V1:Hid (∀w,Calls Tryz.prog 175 #[.agg #[.int .i64 an,.int .i64 ad]] w fun e w'=>e= .returned (.bool p)∧w.Grows w')) (V2:Hid (∀w,Calls Tryz.prog 175 #[.agg #[.int .i64 bn,.int .i64 bd]] w fun e w'=>e= .returned (.bool q)∧w.Grows w'))
 :Calls Tryz.prog 143 #[.agg #[.int .i64 an,.int .i64 ad],.agg #[.int .i64 bn,.int .i64 bd]] w fun e w'=>e= .returned (frI (0,1))∧w.Grows w':=by
 cases p<;>cases q
 all_goals first
  |(exfalso;simp at hpq;done)
  |(clear hpq
    go_enter Tryz.func143,Tryz.ntmps143
    go_wp2_with (first|(go_at_call 175;(with_reducible refine(V1.out _).mono ?_);rintro e w' ⟨rfl,bs,dr,rfl⟩)|(go_at_call 175;(with_reducible refine(V2.out _).mono ?_);rintro e w' ⟨rfl,bs2,dr2,rfl⟩))
    go_returns
    exact⟨rfl,.of_below belB⟩)
theorem cmp2_diff(an ad bn bd r:Int)(w:World)(hd:decide (an<0)≠decide (bn<0))(hr:Hid (r=if an<0 then -1 else 1))
 (V1:Hid (∀w,Calls Tryz.prog 175 #[.agg #[.int .i64 an,.int .i64 ad]] w fun e w'=>e= .returned (.bool true)∧w.Grows w')) (V2:Hid (∀w,Calls Tryz.prog 175 #[.agg #[.int .i64 bn,.int .i64 bd]] w fun e w'=>e= .returned (.bool true)∧w.Grows w'))
 :Calls Tryz.prog 143 #[.agg #[.int .i64 an,.int .i64 ad],.agg #[.int .i64 bn,.int .i64 bd]] w fun e w'=>e= .returned (frI (r,0))∧w.Grows w':=by
 by_cases c:an<0
 focus
  have d1:decide (an<0)=true:=by simpa using c
  have d2:decide (bn<0)=false:=by simp [c]at hd;simpa using hd
  have HR:=Lib.hid (show r= -1 by rw [hr.out,if_pos c])
 rotate_left
 focus
  have d1:decide (an<0)=false:=by simpa using c
  have d2:decide (bn<0)=true:=by simp [c]at hd;simpa using hd
  have HR:=Lib.hid (show r=1 by rw [hr.out,if_neg c])
 rotate_left
 all_goals
  clear hd c hr
  go_enter Tryz.func143,Tryz.ntmps143
  go_wp2_with (first|(go_at_call 175;(with_reducible refine(V1.out _).mono ?_);rintro e w' ⟨rfl,bs,dr,rfl⟩)|(go_at_call 175;(with_reducible refine(V2.out _).mono ?_);rintro e w' ⟨rfl,bs2,dr2,rfl⟩))
  go_returns
  exact⟨by rw [HR.out];rfl,.of_below belB⟩
theorem cmpR_same{an ad bn bd:Int}(h1:1≤ad)(h2:1≤bd)(h:decide (an<0)=decide (bn<0)) :
 cmpI an ad bn bd=cmpR (decide (an<0)) (decide (an.natAbs*bd.natAbs<bn.natAbs*ad.natAbs)) (decide (bn.natAbs*ad.natAbs<an.natAbs*bd.natAbs)):=by
 rw [cmp_same h1 h2 h]
 unfold cmpR
 by_cases c:an<0<;>simp [c]
theorem times_abs{F:FuncId}(T:∀(a b:Nat) (w:World),a<18446744073709551616→b<18446744073709551616→Calls Tryz.prog F #[.int .u64 a,.int .u64 b] w fun e w'=>e= .returned (.agg #[.int .u64 (hiW (a*b)),.int .u64 (loW (a*b))])∧w.Grows w')
 {a b:Int} (ha:I64 a) (hb:I64 b) (w:World):Calls Tryz.prog F #[.int .u64 (absI a),.int .u64 (absI b)] w fun e w'=>e= .returned (.agg #[.int .u64 (hiW (a.natAbs*b.natAbs)),.int .u64 (loW (a.natAbs*b.natAbs))])∧w.Grows w':=by
 unfold I64 at ha hb
 exact T a.natAbs b.natAbs w (by omega) (by omega)
def I64x4(a b c d:Int):Prop:=I64 a∧I64 b∧I64 c∧I64 d
theorem Compare2_any(an ad bn bd:Int)(w:World)(hi:I64x4 an ad bn bd) :
 Calls Tryz.prog 143 #[.agg #[.int .i64 an,.int .i64 ad],.agg #[.int .i64 bn,.int .i64 bd]] w fun e w'=>e= .returned (frI (cmpF an ad bn bd))∧w.Grows w':=by
 obtain⟨i1,i2,i3,i4⟩:=hi
 have V1:=Lib.hid (fun w=>Valid2_any an ad w i1.1 i1.2 i2.1 i2.2)
 have V2:=Lib.hid (fun w=>Valid2_any bn bd w i3.1 i3.2 i4.1 i4.2)
 by_cases hv:(vfrac an ad&&vfrac bn bd)=true
 ·have hva:=(Bool.and_eq_true_iff.1 hv).1
  have hvb:=(Bool.and_eq_true_iff.1 hv).2
  rw [show cmpF an ad bn bd=(cmpI an ad bn bd,0)by unfold cmpF;rw [if_pos hv]]
  rw [hva]at V1
  rw [hvb]at V2
  have b1:=vfrac_bd hva
  have b2:=vfrac_bd hvb
  by_cases hs:decide (an<0)=decide (bn<0)
  ·rw [cmpR_same b1.1 b2.1 hs]
   refine cmp2_core an ad bn bd _ _ _ _ _ _ _ w rfl hs.symm V1 V2 (fun n h w=>size2_any n w h.1 h.2) i1 i2 i3 i4 (times_abs times2_any i1 i4) (times_abs times2_any i3 i2) ?_ ?_
   ·intro w;have:=less2_any (hiW (an.natAbs*bd.natAbs)) (loW (an.natAbs*bd.natAbs)) (hiW (bn.natAbs*ad.natAbs)) (loW (bn.natAbs*ad.natAbs)) w;rwa [wless_nat]at this
   ·intro w;have:=less2_any (hiW (bn.natAbs*ad.natAbs)) (loW (bn.natAbs*ad.natAbs)) (hiW (an.natAbs*bd.natAbs)) (loW (an.natAbs*bd.natAbs)) w;rwa [wless_nat]at this
  ·rw [cmp_diff b1.1 b2.1 hs]
   exact cmp2_diff an ad bn bd _ w hs (Lib.hid rfl) V1 V2
 ·rw [show cmpF an ad bn bd=(0,1)by unfold cmpF;rw [if_neg hv]]
  exact cmp2_no an ad bn bd _ _ w (Bool.eq_false_iff.2 hv) V1 V2
end Go.Proofs.YtfoefpoaomepbaaGreatDoor
namespace Go.Proofs.YtfoefpoaomepbaaGreatDoor
def shI(m n:Nat)(x:Ins):Ins:=if x.op=3∨x.op=4 then {x with a:=x.a+m}else if x.op=21∨x.op=22 then {x with a:=x.a+n}else x
theorem shI_op(m n:Nat)(x:Ins):(shI m n x).op=x.op:=by unfold shI;split;rfl;split<;>rfl
theorem shI_slot{m n:Nat}{x:Ins}(h:x.op=3∨x.op=4):(shI m n x).a=x.a+m:=by unfold shI;rw [if_pos h]
theorem shI_else{m n:Nat}{x:Ins}(h1:¬(x.op=3∨x.op=4))(h2:¬(x.op=21∨x.op=22)):shI m n x=x:=by unfold shI;rw [if_neg h1,if_neg h2]
section
variable {S S' R : List (Option (List Int × List Bool))} {s s' : List Int × List Bool} {x : Ins} {i dep dep' m : Nat} {dims dims' : List Int}
def Low(m:Nat)(b:List Bool):Prop:=b.length=12∧∀k,m≤k→b.getD k false=false
theorem Low.set{a:List Bool}(ha:Low m a){k:Nat}(hk:k<m):Low m (a.set k true):=by
 refine⟨by rw [List.length_set];exact ha.1,fun j hj=>?_⟩
 rw [getD_setI,if_neg (fun c=>by omega)]
 exact ha.2 j hj
end
def mixL(m:Nat)(A b:List Bool):List Bool:=(List.range 12).map fun k=>if k<m then A.getD k false else b.getD (k-m) false
theorem mixL_get{m:Nat}{A b:List Bool}{k:Nat}(h:k<12):(mixL m A b).getD k false=if k<m then A.getD k false else b.getD (k-m) false:=by
 unfold mixL;simp [List.getD_eq_getElem?_getD,List.getElem?_range h]
theorem mixL_len{m:Nat}{A b:List Bool}:(mixL m A b).length=12:=by simp [mixL]
theorem ext12{a b:List Bool}(ha:a.length=12)(hb:b.length=12)(h:∀k,k<12→a.getD k false=b.getD k false):a=b:=by
 apply List.ext_getElem (by omega)
 intro k h1 h2
 have:=h k (by omega)
 rw [List.getD_eq_getElem?_getD,List.getD_eq_getElem?_getD,List.getElem?_eq_getElem h1,List.getElem?_eq_getElem h2]at this
 exact this
theorem zip_get{a b:List Bool}(ha:a.length=12)(hb:b.length=12){k:Nat}:(List.zipWith (· && ·) a b).getD k false=(a.getD k false&&b.getD k false):=by
 rw [List.getD_eq_getElem?_getD,List.getElem?_zipWith,List.getD_eq_getElem?_getD,List.getD_eq_getElem?_getD]
 cases e1:a[k]? with
 |none=>rfl
 |some u=>
  cases e2:b[k]? with
  |none=>simp
  |some v=>rfl
theorem mixL_zip{m:Nat}{A a b:List Bool}(ha:a.length=12)(hb:b.length=12):List.zipWith (· && ·) (mixL m A a) (mixL m A b)=mixL m A (List.zipWith (· && ·) a b):=by
 refine ext12 (by rw [List.length_zipWith,mixL_len,mixL_len];rfl) mixL_len fun k hk=>?_
 rw [zip_get mixL_len mixL_len,mixL_get hk,mixL_get hk,mixL_get hk,zip_get ha hb]
 by_cases h:k<m
 ·simp only [if_pos h,Bool.and_self]
 ·simp only [if_neg h]
theorem mixL_set{m:Nat}{A a:List Bool}(ha:a.length=12){k:Nat}(hk:m+k<12):mixL m A (a.set k true)=(mixL m A a).set (m+k) true:=by
 refine ext12 mixL_len (by rw [List.length_set,mixL_len]) fun j hj=>?_
 rw [mixL_get hj,getD_setI,getD_setI,mixL_get hj,mixL_len]
 by_cases h:j<m
 ·rw [if_pos h,if_pos h,if_neg (fun c=>by omega)]
 ·rw [if_neg h,if_neg h]
  by_cases e:j=m+k
  ·subst e
   rw [if_pos ⟨by omega,by rw [ha];omega⟩,if_pos ⟨rfl,hj⟩]
  ·rw [if_neg (fun c=>by omega),if_neg (fun c=>by omega)]
def liftS(m:Nat)(A:List Bool)(s:List Int × List Bool):List Int × List Bool:=(s.1,mixL m A s.2)
structure RelS(m n m2:Nat)(A:List Bool)(Sc Sb:List (Option (List Int × List Bool)))(Dc Db:List Int):Prop where
 len:Sc.length=n+Sb.length
 st:∀j,Sc.getD (n+j) none=(Sb.getD j none).map (liftS m A)
 l12:∀j s,Sb.getD j none=some s→s.2.length=12
 dm:∀k,k<m2→Dc.getD (m+k) 0=Db.getD k 0
 dc:Dc.length=12
 db:Db.length=12
section
variable {m n m2 : Nat} {A : List Bool} {Sc Sb Sb' : List (Option (List Int × List Bool))} {Dc Db Db' : List Int} {s s' : List Int × List Bool} {x : Ins}
theorem RelS.put(h:RelS m n m2 A Sc Sb Dc Db)(hs:s.2.length=12){k:Nat}(hp:putA Sb k s=some Sb'):∃Sc',putA Sc (n+k) (liftS m A s)=some Sc'∧RelS m n m2 A Sc' Sb' Dc Db:=by
 have key:∀u:List Int × List Bool,u.2.length=12→RelS m n m2 A (Sc.set (n+k) (some (liftS m A u))) (Sb.set k (some u)) Dc Db:=fun u hu=>by
  refine⟨by rw [List.length_set,List.length_set];exact h.len,fun j=>?_,fun j t ht=>?_,h.dm,h.dc,h.db⟩
  ·rw [getD_setI,getD_setI,h.st j]
   by_cases e:k=j∧j<Sb.length
   ·rw [if_pos e,if_pos ⟨by omega,by rw [h.len];omega⟩];rfl
   ·rw [if_neg e,if_neg (fun c=>e ⟨by omega,by have:=h.len;omega⟩)]
  ·rw [getD_setI]at ht
   split at ht
   ·obtain rfl:=Option.some.inj ht;exact hu
   ·exact h.l12 j t ht
 unfold putA at hp ⊢
 rw [h.st k]
 cases e:Sb.getD k none with
 |none=>
  rw [e]at hp
  obtain rfl:=Option.some.inj hp
  exact⟨_,rfl,key s hs⟩
 |some t=>
  rw [e]at hp
  by_cases e1:t.1=s.1
  ·simp only [if_pos e1]at hp
   obtain rfl:=Option.some.inj hp
   refine⟨_,by simp only [Option.map_some];rw [if_pos (show(liftS m A t).1=(liftS m A s).1 from e1)], ?_⟩
   have:=key (t.1,List.zipWith (· && ·) t.2 s.2) (by rw [List.length_zipWith,h.l12 k t e,hs];rfl)
   unfold liftS at this ⊢
   rw [mixL_zip (h.l12 k t e) hs]
   exact this
  ·simp only [if_neg e1]at hp;cases hp
theorem RelS.app(h:RelS m n m2 A Sc Sb Dc Db)(hm:m+m2≤12){nn i:Nat}(hw:wfF m2 nn i x=true)(hs:s.2.length=12)(ha:appA x s Db=some (s',Db')) :
 ∃Dc',appA (shI m n x) (liftS m A s) Dc=some (liftS m A s',Dc')∧RelS m n m2 A Sc Sb Dc' Db'∧s'.2.length=12:=by
 have hop:=shI_op m n x
 by_cases o1:x.op=1
 ·have e:=shI_else (m:=m) (n:=n) (x:=x) (by omega) (by omega)
  unfold appA at ha ⊢
  rw [if_pos o1]at ha
  rw [e,if_pos o1]
  obtain⟨rfl,rfl⟩:=Prod.mk.inj (Option.some.inj ha)
  exact⟨Dc,rfl,h,hs⟩
 have hr:=wf_rest hw o1
 by_cases o3:x.op=3
 ·have hk:=hr.2.2.1 (.inl o3)
  have e:=shI_slot (m:=m) (n:=n) (x:=x) (.inl o3)
  have et:(shI m n x).a.toNat=m+x.a.toNat:=by rw [e];omega
  unfold appA at ha ⊢
  rw [hop,et]
  simp only [o3]at ha ⊢
  simp only [if_neg (show ¬(3:Int)=1 by decide),if_neg (show ¬(3:Int)=2 by decide),if_neg (show ¬(3:Int)=5 by decide),if_neg (show ¬((3:Int)=23∨(3:Int)=24)by decide),if_true]at ha ⊢
  have eb:(liftS m A s).2.getD (m+x.a.toNat) false=s.2.getD x.a.toNat false:=by
   show(mixL m A s.2).getD _ _=_
   rw [mixL_get (by omega),if_neg (by omega),Nat.add_sub_cancel_left]
  rw [eb]
  by_cases hb:s.2.getD x.a.toNat false=true
  ·rw [if_pos hb]at ha ⊢
   obtain⟨rfl,rfl⟩:=Prod.mk.inj (Option.some.inj ha)
   refine⟨Dc, ?_,h,hs⟩
   rw [h.dm _ (by omega)];rfl
  ·rw [if_neg hb]at ha;cases ha
 by_cases o4:x.op=4
 ·have hk:=hr.2.2.1 (.inr o4)
  have e:=shI_slot (m:=m) (n:=n) (x:=x) (.inr o4)
  have et:(shI m n x).a.toNat=m+x.a.toNat:=by rw [e];omega
  unfold appA at ha ⊢
  rw [hop,et]
  simp only [o4]at ha ⊢
  simp only [if_neg (show ¬(4:Int)=1 by decide),if_neg (show ¬(4:Int)=2 by decide),if_neg (show ¬(4:Int)=3 by decide),if_neg (show ¬(4:Int)=5 by decide),if_neg (show ¬((4:Int)=23∨(4:Int)=24)by decide),if_true]at ha ⊢
  by_cases he:s.1= []
  ·rw [if_pos he]at ha;cases ha
  rw [if_neg he]at ha
  rw [if_neg (show ¬(liftS m A s).1= []from he)]
  obtain⟨rfl,rfl⟩:=Prod.mk.inj (Option.some.inj ha)
  refine⟨Dc.set (m+x.a.toNat) (s.1.getLastD 0), ?_,⟨h.len,h.st,h.l12,fun k hk2=>?_,by rw [List.length_set];exact h.dc,by rw [List.length_set];exact h.db⟩,by rw [List.length_set];exact hs⟩
  ·unfold liftS
   rw [mixL_set hs (by omega)]
  ·rw [getD_setI,getD_setI,h.dm k hk2]
   have:=h.dc
   have:=h.db
   by_cases ek:x.a.toNat=k
   ·subst ek;rw [if_pos ⟨rfl,by omega⟩,if_pos ⟨rfl,by omega⟩]
   ·rw [if_neg (fun c=>ek (by omega)),if_neg (fun c=>ek c.1)]
 by_cases oj:x.op=21∨x.op=22
 ·unfold appA at ha ⊢
  rw [hop]
  rcases oj with o|o
  all_goals
   simp only [o]at ha ⊢
   simp at ha ⊢
  ·obtain⟨rfl,rfl⟩:=ha
   exact⟨Dc,⟨rfl,rfl⟩,h,hs⟩
  ·obtain⟨h1,rfl,rfl⟩:=ha
   exact⟨Dc,⟨h1,rfl,rfl⟩,h,hs⟩
 have e:=shI_else (m:=m) (n:=n) (x:=x) (by omega) oj
 rw [e]
 unfold appA at ha ⊢
 rw [if_neg o1]at ha ⊢
 by_cases o2:x.op=2
 ·rw [if_pos o2]at ha ⊢
  obtain⟨rfl,rfl⟩:=Prod.mk.inj (Option.some.inj ha)
  exact⟨Dc,rfl,h,hs⟩
 rw [if_neg o2]at ha ⊢
 by_cases o5:x.op=5
 ·rw [if_pos o5]at ha ⊢
  obtain⟨rfl,rfl⟩:=Prod.mk.inj (Option.some.inj ha)
  exact⟨Dc,rfl,h,hs⟩
 rw [if_neg o5]at ha ⊢
 by_cases o23:x.op=23∨x.op=24
 ·rw [if_pos o23]at ha ⊢
  obtain⟨rfl,rfl⟩:=Prod.mk.inj (Option.some.inj ha)
  exact⟨Dc,rfl,h,hs⟩
 rw [if_neg o23,if_neg o3,if_neg o4,if_neg (by omega),if_neg (by omega)]at ha ⊢
 by_cases hn:s.1.length<ariF (opF x.op)
 ·rw [if_pos hn]at ha;cases ha
 rw [if_neg hn]at ha
 rw [if_neg (show ¬(liftS m A s).1.length<ariF (opF x.op)from hn)]
 by_cases hz:resD (opF x.op) (s.1.drop (s.1.length-ariF (opF x.op)))=0
 ·rw [if_pos hz]at ha;cases ha
 rw [if_neg hz]at ha
 rw [if_neg (show ¬resD (opF x.op) ((liftS m A s).1.drop ((liftS m A s).1.length-ariF (opF x.op)))=0 from hz)]
 obtain⟨rfl,rfl⟩:=Prod.mk.inj (Option.some.inj ha)
 exact⟨Dc,rfl,h,hs⟩
end
end Go.Proofs.YtfoefpoaomepbaaGreatDoor
