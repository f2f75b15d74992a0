import Derived.Test.YtcfpoofhokbhlaaGreatDoorVEvP
import Derived.Test.YtcfpoofhokbhlaaGreatDoorVTop
set_option linter.all false
set_option maxHeartbeats 16000000
set_option maxRecDepth 1000000
namespace Go.Proofs.YtcfpoofhokbhlaaGreatDoor
open Tryz List
def ib:List (ByteArray × Ex)->List (ByteArray × Int)->List (ByteArray × Int) × Int
 | [],env=>(env,0)
 |t::r,env=>
  if bQ t.1.toList≠0\/fq t.1=false then([],5)
  else if env.any (fun p=>decide (p.1=t.1))=true then([],10)
  else if(aR env t.2).2≠0 then([],(aR env t.2).2)else ib r (env++[(t.1,(aR env t.2).1)])
def dJ(l:List (ByteArray × Ex)):List (ByteArray × Int) × Int:=if 10<l.length then([],7)else ib l []
def dS(env:List (ByteArray × Int))(e:Ex)(want:Int):Int:=if(aR env e).2=0/\(aR env e).1≠want then 6 else(aR env e).2
def ko:List Int->List Int->Bool
 |_,[]=>false
 |pre,x::r=>pre.contains x || ko (pre++[x]) r
def r9:List Int->Bool
 | []=>true
 |x::r=>(match r with| []=>true|y::_=>decide (x<y))&&r9 r
def grG(env:List (ByteArray × Int)):List Int->List (Int × Ex × Ex)->Int
 |_,[]=>0
 |pre,g::r=>if pre.contains g.1=true then 10 else if dS env g.2.1 1≠0 then dS env g.2.1 1 else if dS env g.2.2 4≠0 then dS env g.2.2 4 else grG env (pre++[g.1]) r
def reG(env:List (ByteArray × Int)):List Int->List (Int × Ex)->Int
 |_,[]=>0
 |pre,g::r=>if pre.contains g.1=true then 10 else if dS env g.2 2≠0 then dS env g.2 2 else reG env (pre++[g.1]) r
def bF(V:dH):Int:=
 if(dJ V.le).2≠0 then(dJ V.le).2
 else if ko [] (V.cr.map Prod.fst)=true then 10
 else if r9 (V.se.map Prod.fst)=false then 1
 else if grG (dJ V.le).1 [] V.gr≠0 then grG (dJ V.le).1 [] V.gr
 else reG (dJ V.le).1 [] V.re
theorem jI{α:Type}[Inhabited α]{l:List α}{k:Nat}(hk:k<l.length):l.drop k=l.getD k default::l.drop (k+1):=by
 exact Qi
theorem tK{α:Type}[Inhabited α]{l:List α}{k:Nat}(hk:k<l.length):l.take (k+1)=l.take k++[l.getD k default]:=by
 exact Qj
theorem tJ{l:List Int}{k:Nat}{x:Int}(hk:k<=l.length):(l.take k).contains x=(List.range k).any fun j=>decide (l.getD j 0=x):=by
 rw [Bool.eq_iff_iff,contains_iff_mem,any_eq_true];constructor
 ·intro h;obtain⟨j,hj,rfl⟩:=mem_take_iff_getElem.1 h;have:j<l.length:=by omega
  exact⟨j,mem_range.2 ze,by simp [getD_eq_getElem?_getD,getElem?_eq_getElem this]⟩
 ·rintro⟨j,hj,he⟩;have hj:=mem_range.1 hj;have:j<l.length:=by omega
  refine mem_take_iff_getElem.2 ⟨j,by omega, ?_⟩;simpa [getD_eq_getElem?_getD,getElem?_eq_getElem this]using he
theorem E8{l:List Int}{k:Nat}(hk:k<l.length):ko (l.take k) (l.drop k)=((l.take k).contains (l.getD k 0) || ko (l.take (k+1)) (l.drop (k+1))):=by
 rw [jI hk,tK hk,ko];rfl
theorem Gl{l:List Int}:ko (l.take l.length) (l.drop l.length)=false:=by rw [drop_length,ko]
theorem sO:∀l:List Int,r9 l=true↔∀j,j+1<l.length->l.getD j 0<l.getD (j+1) 0
 | []=>by simp [r9]
 | [x]=>by simp [r9]
 |x::y::r=>by
  rw [r9,Bool.and_eq_true,sO (y::r)];constructor
  ·rintro⟨h1,h2⟩ j hj
   cases j with
   |zero=>simpa using h1
   |succ j=>simpa using h2 j yH
  ·intro h;exact⟨by simpa using h 0 zg,fun j hj=>by simpa using h (j+1) yH⟩
theorem ME{l:List Int}{j:Nat}(h:j+1<l.length)(hle:l.getD (j+1) 0<=l.getD j 0):r9 l=false:=by
 rw [Bool.eq_false_iff];intro hc;have:=(sO l).1 hc j h;omega
def iY(env:List (ByteArray × Int))(pre:List Int)(g:Int × Ex × Ex):Int:=if pre.contains g.1=true then 10 else if dS env g.2.1 1≠0 then dS env g.2.1 1 else dS env g.2.2 4
theorem Q5{env:List (ByteArray × Int)}{l:List (Int × Ex × Ex)}{k:Nat}(hk:k<l.length)(h:iY env ((l.take k).map Prod.fst) (l.getD k default)≠0):grG env ((l.take k).map Prod.fst) (l.drop k)=iY env ((l.take k).map Prod.fst) (l.getD k default):=by
 rw [jI hk,grG];unfold iY at h ⊢
 split
 ·rfl
 ·rename_i h1
  rw [if_neg h1]at h
  split
  ·rfl
  ·rename_i h2
   rw [if_neg h2]at h;rw [if_pos h]
theorem OY{env:List (ByteArray × Int)}{l:List (Int × Ex × Ex)}{k:Nat}(hk:k<l.length)(h:iY env ((l.take k).map Prod.fst) (l.getD k default)=0):grG env ((l.take k).map Prod.fst) (l.drop k)=grG env ((l.take (k+1)).map Prod.fst) (l.drop (k+1)):=by
 rw [jI hk,grG,tK hk,map_append];unfold iY at h
 split at h
 ·cases h
 ·rename_i h1
  rw [if_neg h1]
  split at h
  ·rename_i h2;exact absurd h h2
  ·rename_i h2
   rw [if_neg h2,if_neg zF];rfl
def iV(env:List (ByteArray × Int))(pre:List Int)(g:Int × Ex):Int:=if pre.contains g.1=true then 10 else dS env g.2 2
theorem QS{env:List (ByteArray × Int)}{l:List (Int × Ex)}{k:Nat}(hk:k<l.length)(h:iV env ((l.take k).map Prod.fst) (l.getD k default)≠0):reG env ((l.take k).map Prod.fst) (l.drop k)=iV env ((l.take k).map Prod.fst) (l.getD k default):=by
 rw [jI hk,reG];unfold iV at h ⊢
 split
 ·rfl
 ·rename_i h1
  rw [if_neg h1]at h;rw [if_pos h]
theorem Oq{env:List (ByteArray × Int)}{l:List (Int × Ex)}{k:Nat}(hk:k<l.length)(h:iV env ((l.take k).map Prod.fst) (l.getD k default)=0):reG env ((l.take k).map Prod.fst) (l.drop k)=reG env ((l.take (k+1)).map Prod.fst) (l.drop (k+1)):=by
 rw [jI hk,reG,tK hk,map_append];unfold iV at h
 split at h
 ·cases h
 ·rename_i h1
  rw [if_neg h1,if_neg zF];rfl
theorem Kj{V:dH}(h:(dJ V.le).2≠0):bF V=(dJ V.le).2:=by unfold bF;rw [if_pos h]
theorem Ki{V:dH}(h:(dJ V.le).2=0)(h1:ko [] (V.cr.map Prod.fst)=true):bF V=10:=by unfold bF;rw [if_neg zF,if_pos h1]
theorem Kh{V:dH}(h:(dJ V.le).2=0)(h1:ko [] (V.cr.map Prod.fst)=false)(h2:r9 (V.se.map Prod.fst)=false):bF V=1:=by unfold bF;rw [if_neg zF,if_neg (by simp [h1]),if_pos h2]
theorem Kg{V:dH}(h:(dJ V.le).2=0)(h1:ko [] (V.cr.map Prod.fst)=false)(h2:r9 (V.se.map Prod.fst)=true)(h3:grG (dJ V.le).1 [] V.gr≠0):bF V=grG (dJ V.le).1 [] V.gr:=by
 unfold bF;rw [if_neg zF,if_neg (by simp [h1]),if_neg (by simp [h2]),if_pos h3]
theorem Ke{V:dH}(h:(dJ V.le).2=0)(h1:ko [] (V.cr.map Prod.fst)=false)(h2:r9 (V.se.map Prod.fst)=true)(h3:grG (dJ V.le).1 [] V.gr=0):bF V=reG (dJ V.le).1 [] V.re:=by
 unfold bF;rw [if_neg zF,if_neg (by simp [h1]),if_neg (by simp [h2]),if_neg (by simpa using h3)]
structure kC(ls:List (ByteArray × Ex))(k:Nat)(env:List (ByteArray × Int)):Prop where
 all:ib ls []=ib (ls.drop k) env
 len:env.length=k
 nm:env.map Prod.fst=(ls.take k).map Prod.fst
theorem kC.zero(ls:List (ByteArray × Ex)):kC ls 0 []:=⟨rfl,rfl,by simp⟩
def fV(env:List (ByteArray × Int))(t:ByteArray × Ex):Int:=
 if bQ t.1.toList≠0\/fq t.1=false then 5 else if env.any (fun p=>decide (p.1=t.1))=true then 10 else(aR env t.2).2
theorem kC.drop{ls:List (ByteArray × Ex)}{k:Nat}(hk:k<ls.length):ls.drop k=ls.getD k default::ls.drop (k+1):=by
 exact Qi
theorem kC.bad{ls:List (ByteArray × Ex)}{k:Nat}{env:List (ByteArray × Int)}(h:kC ls k env)(hk:k<ls.length)(hb:fV env (ls.getD k default)≠0):ib ls []=([],fV env (ls.getD k default)):=by
 rw [h.all,kC.drop hk,ib];unfold fV at hb ⊢
 split
 ·rfl
 ·rename_i h1
  rw [if_neg h1]at hb
  split
  ·rfl
  ·rename_i h2
   rw [if_neg h2]at hb;rw [if_pos hb]
theorem kC.next{ls:List (ByteArray × Ex)}{k:Nat}{env:List (ByteArray × Int)}(h:kC ls k env)(hk:k<ls.length)(hb:fV env (ls.getD k default)=0):kC ls (k+1) (env++[((ls.getD k default).1,(aR env (ls.getD k default).2).1)]):=by
 refine⟨?_,by rw [length_append,h.len];rfl, ?_⟩
 ·rw [h.all,kC.drop hk,ib];unfold fV at hb
  split at hb
  ·cases hb
  ·rename_i h1
   rw [if_neg h1]
   split at hb
   ·cases hb
   ·rename_i h2
    rw [if_neg h2,if_neg (by simpa using hb)]
 ·rw [map_append,h.nm,take_succ_eq_append_getElem hk,map_append];simp [getD_eq_getElem?_getD,getElem?_eq_getElem hk]
theorem kC.done{ls:List (ByteArray × Ex)}{env:List (ByteArray × Int)}(h:kC ls ls.length env):ib ls []=(env,0):=by
 rw [h.all,drop_length,ib]
theorem kC.dup{ls:List (ByteArray × Ex)}{k:Nat}{env:List (ByteArray × Int)}(h:kC ls k env)(hk:k<=ls.length)(s:ByteArray):env.any (fun p=>decide (p.1=s))=(List.range k).any fun j=>decide ((ls.getD j default).1=s):=by
 have h1:env.any (fun p=>decide (p.1=s))=(env.map Prod.fst).any fun x=>decide (x=s):=by rw [any_map];rfl
 rw [h1,h.nm,any_map,Bool.eq_iff_iff,any_eq_true,any_eq_true];constructor
 ·rintro⟨t,ht,hs⟩;obtain⟨j,hj,rfl⟩:=mem_take_iff_getElem.1 ht;have:j<ls.length:=by omega
  exact⟨j,mem_range.2 ze,by simpa [getD_eq_getElem?_getD,getElem?_eq_getElem this]using hs⟩
 ·rintro⟨j,hj,hs⟩;have hj:=mem_range.1 hj;have:j<ls.length:=by omega
  exact⟨ls[j],mem_take_iff_getElem.2 ⟨j,by omega,rfl⟩,by simpa [getD_eq_getElem?_getD,getElem?_eq_getElem this]using hs⟩
theorem qx{ls:List (ByteArray × Ex)}(h:ls.length<=10):dJ ls=ib ls []:=by unfold dJ;rw [if_neg ze]
mutual
theorem uL{a b:List (ByteArray × Int)}:∀e:Ex,(∀s,bN s e=true->eu b s=eu a s)->aD b e=aD a e
 | .mk op n d m s l,h=>by
   rw [aD,aD,rC l (fun x hx=>h x (by rw [bN,hx,Bool.or_true]))];by_cases h2:op=2
   ·subst h2;rw [h s (by simp [bN])]
   ·exact Aq h2
theorem rC{a b:List (ByteArray × Int)}:∀l:List Ex,(∀s,dM s l=true->eu b s=eu a s)->aW b l=aW a l
 | [],_=>by rw [aW,aW]
 |e::r,h=>by rw [aW,aW,uL e (fun x hx=>h x (by rw [dM,hx,Bool.true_or])),rC r (fun x hx=>h x (by rw [dM,hx,Bool.or_true]))]
end
theorem CG{op n d m:Int}{s:ByteArray}{l:List Ex}(h:aN (.mk op n d m s l)=true)(ho:op=1\/op=2\/op=3):l= []:=by
 rw [eP,Bool.and_eq_true]at h;have h1:(l.length:Int)=aU op:=of_decide_eq_true h.1;have h0:aU op=0:=by unfold aU;rw [if_pos ze]
 exact eq_nil_of_length_eq_zero ze
theorem EO{op n d m:Int}{s:ByteArray}{l:List Ex}(h:aN (.mk op n d m s l)=true)(h1:op≠1)(h2:op≠2)(h3:op≠3):aX l=true:=by
 rw [eP,Bool.and_eq_true]at h;have:=h.2;rw [if_neg (by exact h1),if_neg (by exact h2),if_neg (by exact h3),Bool.and_eq_true]at this;exact this.1
mutual
theorem rD{a:List (ByteArray × Int)}{s:ByteArray}:∀e:Ex,aN e=true->(aD a e).2=0->bN s e=true->(eu a s).2=0
 | .mk op n d m nm l,hf,hi,hm=>by
   by_cases ho:op=1\/op=2\/op=3
   ·have hl:=CG hf ho;subst hl;rw [bN,dM,Bool.or_false,Bool.and_eq_true]at hm;have h2:op=2:=of_decide_eq_true hm.1;have hs:nm=s:=of_decide_eq_true hm.2;subst h2 hs;rw [aD]at hi;exact hi
   ·have h1:op≠1:=fun h=>ho (.inl h);have h2:op≠2:=fun h=>ho (.inr (.inl h));have h3:op≠3:=fun h=>ho (.inr (.inr h));rw [bN,decide_eq_false h2,Bool.false_and,Bool.false_or]at hm;refine pg l (EO hf h1 h2 h3) ?_ hm;rw [aD]at hi;unfold fw at hi;rw [if_neg h1,if_neg h3,if_neg h2]at hi;by_cases hr:(aW a l).2=0
    ·exact hr
    ·rw [if_pos hr]at hi;exact hi
theorem pg{a:List (ByteArray × Int)}{s:ByteArray}:∀l:List Ex,aX l=true->(aW a l).2=0->dM s l=true->(eu a s).2=0
 | [],_,_,hm=>by rw [dM]at hm;cases hm
 |e::r,hf,hi,hm=>by
  rw [aX,Bool.and_eq_true]at hf;rw [aW]at hi
  have h1:(aD a e).2=0:=by
   by_cases h:(aD a e).2=0
   ·exact h
   ·rw [if_pos h]at hi;exact hi
  have h2:(aW a r).2=0:=by
   rw [if_neg (by simpa using h1)]at hi;by_cases h:(aW a r).2=0
   ·exact h
   ·rw [if_pos h]at hi;exact hi
  rw [dM,Bool.or_eq_true]at hm;rcases hm with hm|hm
  ·exact rD e hf.1 h1 hm
  ·exact pg r hf.2 h2 hm
end
theorem kZ{α:Type}(l:List (ByteArray × α))(p:ByteArray × α)(s:ByteArray):dK (l++[p]) s=if p.1=s then some p.2 else dK l s:=by
 unfold dK;rw [reverse_append,reverse_singleton,singleton_append,find?_cons];by_cases h:p.1=s
 ·rw [if_pos h,decide_eq_true h];rfl
 ·rw [if_neg h,decide_eq_false h]
structure iA(ls:List (ByteArray × Ex))(k:Nat)(env:List (ByteArray × Int)):Prop where
 len:env.length=k
 nm:∀i,i<k->(env.getD i default).1=(ls.getD i default).1
 ty:∀i,i<k->aR (env.take i) (ls.getD i default).2=((env.getD i default).2,0)
 word:∀i,i<k->bQ (ls.getD i default).1.toList=0/\fq (ls.getD i default).1=true
 inj:∀i j,i<j->j<k->(ls.getD i default).1≠(ls.getD j default).1
theorem iA.zero(ls:List (ByteArray × Ex)):iA ls 0 []:=⟨rfl,fun i h=>by omega,fun i h=>by omega,fun i h=>by omega,fun i j _ h=>by omega⟩
theorem qF{α:Type}[Inhabited α]{l:List α}{x:α}{i:Nat}:(l++[x]).getD i default=if i<l.length then l.getD i default else if i=l.length then x else default:=by
 simp only [getD_eq_getElem?_getD];by_cases h:i<l.length
 ·rw [if_pos h,getElem?_append_left h]
 ·rw [if_neg h,getElem?_append_right ze];by_cases h2:i=l.length
  ·subst h2;simp
  ·rw [if_neg h2,getElem?_eq_none zp];rfl
theorem iA.next{ls:List (ByteArray × Ex)}{k:Nat}{env:List (ByteArray × Int)}(h:iA ls k env)(ha:kC ls k env)(hk:k<ls.length)(hb:fV env (ls.getD k default)=0) :
 iA ls (k+1) (env++[((ls.getD k default).1,(aR env (ls.getD k default).2).1)]):=by
 have hl:=h.len;unfold fV at hb
 split at hb
 ·cases hb
 rename_i h1
 split at hb
 ·cases hb
 rename_i h2
 have hdup:=ha.dup ze (ls.getD k default).1
 have hd:∀j,j<k->(ls.getD j default).1≠(ls.getD k default).1:=fun j hj he=>by
  rw [hdup]at h2;exact h2 (any_eq_true.2 ⟨j,mem_range.2 hj,decide_eq_true he⟩)
 refine⟨by rw [length_append,hl];rfl,fun i hi=>?_,fun i hi=>?_,fun i hi=>?_,fun i j hij hj=>?_⟩
 ·rw [qF];by_cases hik:i<k
  ·rw [if_pos ze];exact h.nm i hik
  ·rw [if_neg ze,if_pos ze];show(ls.getD k default).1=_;rw [show i=k by omega]
 ·by_cases hik:i<k
  ·rw [take_append_of_le_length ze,qF,if_pos ze];exact h.ty i hik
  ·obtain rfl:i=k:=by omega
   rw [take_append_of_le_length ze,take_of_length_le ze,qF,if_neg ze,if_pos hl.symm];exact Prod.ext rfl hb
 ·by_cases hik:i<k
  ·exact h.word i hik
  ·obtain rfl:i=k:=by omega
   exact⟨Decidable.byContradiction fun c=>h1 (.inl c),by
    cases hn:fq (ls.getD i default).1
    ·exact absurd (.inr hn) h1
    ·rfl⟩
 ·by_cases hjk:j<k
  ·exact h.inj i j hij hjk
  ·obtain rfl:j=k:=by omega
   exact hd i hij
theorem iA.of_lets{ls:List (ByteArray × Ex)}{env:List (ByteArray × Int)}(h:ib ls []=(env,0)):iA ls ls.length env:=by
 have key:∀k,k<=ls.length->∃e,kC ls k e/\iA ls k e:=by
  intro k
  induction k with
  |zero=>intro _;exact⟨[],kC.zero ls,iA.zero ls⟩
  |succ k ih=>
   intro hk;obtain⟨e,h1,h2⟩:=ih ze
   have hz:fV e (ls.getD k default)=0:=Decidable.byContradiction fun c=>by
    have hb:=h1.bad ze c;rw [h]at hb;exact c (Prod.mk.inj hb).2.symm
   exact⟨_,h1.next ze hz,h2.next h1 ze hz⟩
 obtain⟨e,h1,h2⟩:=key ls.length (Nat.le_refl _);have hd:=h1.done;rw [h]at hd;rw [(Prod.mk.inj hd).1];exact h2
theorem iA.last{ls:List (ByteArray × Ex)}{k:Nat}{env:List (ByteArray × Int)}(h:iA ls k env){j:Nat}:∀i,j<i->i<=k->dK (env.take i) (ls.getD j default).1=some (env.getD j default).2
 |0,hj,_=>by omega
 |i+1,hj,hi=>by
  have hl:=h.len;rw [take_succ_eq_append_getElem ze,kZ];have hg:env[i]' ze=env.getD i default:=by rw [getD_eq_getElem?_getD,getElem?_eq_getElem ze];rfl
  rw [hg,h.nm i ze];by_cases hji:j=i
  ·subst hji;rw [if_pos rfl]
  ·rw [if_neg (fun e=>h.inj j i ze ze e.symm)];exact h.last i ze ze
theorem iA.none{ls:List (ByteArray × Ex)}{k:Nat}{env:List (ByteArray × Int)}(h:iA ls k env){s:ByteArray}:∀i,i<=k->(∀j,j<i->(ls.getD j default).1≠s)->dK (env.take i) s=none
 |0,_,_=>by simp [dK]
 |i+1,hi,hs=>by
  have hl:=h.len;rw [take_succ_eq_append_getElem ze,kZ];have hg:env[i]' ze=env.getD i default:=by rw [getD_eq_getElem?_getD,getElem?_eq_getElem ze];rfl
  rw [hg,h.nm i ze,if_neg (hs i ze)];exact h.none i ze fun j hj=>hs j ze
theorem iA.named{ls:List (ByteArray × Ex)}{k:Nat}{env:List (ByteArray × Int)}(h:iA ls k env){s:ByteArray}{i:Nat}(hi:i<=k)(ht:(eu (env.take i) s).2=0):bQ s.toList≠0\/∃j,j<i/\(ls.getD j default).1=s:=by
 by_cases hs:bQ s.toList=0
 ·refine .inr (Decidable.byContradiction fun c=>?_);have:=h.none (s:=s) i hi fun j hj e=>c ⟨j,hj,e⟩;unfold eu at ht;rw [if_neg yt,this]at ht;cases ht
 ·exact .inl hs
structure lq(ls:List (ByteArray × Ex))(env:List (ByteArray × Int))(D:List Nat)(st:List (ByteArray × Val)):Prop where
 ok:∀p∈st,p.2.ok=true
 dom:∀j∈D,j<ls.length
 look:∀j∈D,dK (aS st) (ls.getD j default).1=some (env.getD j default).2
 sub:∀j,j<ls.length->(st.any fun p=>decide (p.1=(ls.getD j default).1))=D.contains j
theorem lq.zero(ls:List (ByteArray × Ex))(env:List (ByteArray × Int)):lq ls env [] []:=⟨fun _ h=>(by cases h),fun _ h=>(by cases h),fun _ h=>(by cases h),fun _ _=>rfl⟩
theorem xM(st:List (ByteArray × Val))(p:ByteArray × Val):aS (st++[p])=aS st++[(p.1,p.2.dim)]:=by simp [aS]
theorem lq.push{ls:List (ByteArray × Ex)}{env:List (ByteArray × Int)}{D:List Nat}{st:List (ByteArray × Val)}(h:lq ls env D st)(hl:iA ls ls.length env){i:Nat}(hi:i<ls.length)(hD:D.contains i=false){x:Val}(hx:x.ok=true)(hd:x.dim=(env.getD i default).2) :
 lq ls env (D++[i]) (st++[((ls.getD i default).1,x)]):=by
 have ne:∀j,j<ls.length->j≠i->(ls.getD i default).1≠(ls.getD j default).1:=fun j hj hji=>by
  rcases Nat.lt_or_gt_of_ne hji with h1|h1
  ·exact fun e=>hl.inj j i h1 hi e.symm
  ·exact hl.inj i j h1 hj
 refine⟨fun p hp=>?_,fun j hj=>?_,fun j hj=>?_,fun j hj=>?_⟩
 ·rcases mem_append.1 hp with hp|hp
  ·exact h.ok p hp
  ·obtain rfl:p=_:=by simpa using hp
   exact hx
 ·rcases mem_append.1 hj with hj|hj
  ·exact h.dom j hj
  ·obtain rfl:j=i:=by simpa using hj
   exact hi
 ·rw [xM,kZ];rcases mem_append.1 hj with hj|hj
  ·have hji:j≠i:=fun e=>by
    have hc:D.contains j=true:=contains_iff_mem.2 hj;rw [e,hD]at hc;cases hc
   rw [if_neg (ne j (h.dom j hj) hji)];exact h.look j hj
  ·obtain rfl:j=i:=by simpa using hj
   rw [if_pos rfl,hd]
 ·rw [any_append,h.sub j hj];by_cases hji:j=i
  ·subst hji;simp
  ·have:decide ((ls.getD i default).1=(ls.getD j default).1)=false:=decide_eq_false (ne j hj hji);rw [any_cons,any_nil,this,Bool.or_false,Bool.or_false,Bool.eq_iff_iff,contains_iff_mem,contains_iff_mem,mem_append];simp [hji]
theorem lq.other{ls:List (ByteArray × Ex)}{env:List (ByteArray × Int)}{D:List Nat}{st:List (ByteArray × Val)}(h:lq ls env D st)(hl:iA ls ls.length env){s:ByteArray}(hs:fq s=false){x:Val}(hx:x.ok=true):lq ls env D (st++[(s,x)]):=by
 have ne:∀j,j<ls.length->s≠(ls.getD j default).1:=fun j hj e=>by
  have:=(hl.word j hj).2;rw [<-e,hs]at this;cases this
 refine⟨fun p hp=>?_,h.dom,fun j hj=>?_,fun j hj=>?_⟩
 ·rcases mem_append.1 hp with hp|hp
  ·exact h.ok p hp
  ·obtain rfl:p=_:=by simpa using hp
   exact hx
 ·rw [xM,kZ,if_neg (ne j (h.dom j hj))];exact h.look j hj
 ·rw [any_append,h.sub j hj];have:decide (s=(ls.getD j default).1)=false:=decide_eq_false (ne j hj);rw [any_cons,any_nil,this,Bool.or_false,Bool.or_false]
theorem lq.typed{ls:List (ByteArray × Ex)}{env:List (ByteArray × Int)}{D:List Nat}{st:List (ByteArray × Val)}(h:lq ls env D st)(hl:iA ls ls.length env){i:Nat}(hi:i<=ls.length){e:Ex}(hf:aN e=true)(ht:(aD (env.take i) e).2=0)
 (hD:∀j,j<i->bN (ls.getD j default).1 e=true->j∈D):aD (aS st) e=aD (env.take i) e:=by
 refine uL e fun s hs=>?_;rcases hl.named hi (rD e hf ht hs)with h0|⟨j,hj,rfl⟩
 ·unfold eu;rw [if_pos h0,if_pos h0]
 ·unfold eu;rw [if_neg xw,if_neg xw,h.look j (hD j hj hs),hl.last i hj hi]
def gU(v:Vw)(ls:List (ByteArray × Ex)):List Nat->List Nat->List (ByteArray × Val)->List Nat × List (ByteArray × Val) × Int
 | [],D,st=>(D,st,0)
 |i::r,D,st=>if D.contains i=true then gU v ls r D st
  else if(aj v st (ls.getD i default).2).2≠0 then(D,st,(aj v st (ls.getD i default).2).2)
  else gU v ls r (D++[i]) (st++[((ls.getD i default).1,(aj v st (ls.getD i default).2).1)])
theorem wh{e:Ex}{ls:List (ByteArray × Ex)}{j:Nat}(hj:j<ls.length):j∈az e ls↔jA e ls j (bJ e ls (ls.length-j-1))=true:=by
 have h1:=kF (e:=e) (ls:=ls) (i:=j) (ls.length-j-1+1) j ze ze hj;rw [show ls.length-j-1+1+j=ls.length by omega]at h1;have h2:=jr (e:=e) (ls:=ls) (ls.length-j-1) ze;rw [show ls.length-(ls.length-j-1+1)=j by omega]at h2;unfold az;rw [h1,<-h2,contains_iff_mem]
theorem Bd{e:Ex}{ls:List (ByteArray × Ex)}{j:Nat}(hj:j<ls.length)(h:bN (ls.getD j default).1 e=true):j∈az e ls:=by
 rw [wh hj];unfold jA;rw [h];rfl
theorem Be{e:Ex}{ls:List (ByteArray × Ex)}{i j:Nat}(hi:i∈az e ls)(hji:j<i)(h:bN (ls.getD j default).1 (ls.getD i default).2=true):j∈az e ls:=by
 have hil:i<ls.length:=(fM ls.length (Nat.le_refl _) i hi).2;rw [wh ze];unfold jA;rw [Bool.or_eq_true];refine .inr (any_eq_true.2 ⟨i, ?_,h⟩);have h1:=kF (e:=e) (ls:=ls) (i:=i) (ls.length-j-1) (j+1) ze ze hil;rw [show ls.length-j-1+(j+1)=ls.length by omega]at h1;exact h1.1 hi
theorem sD{e:Ex}{ls:List (ByteArray × Ex)}{i:Nat}(hi:i∈az e ls):i<ls.length:=(fM ls.length (Nat.le_refl _) i hi).2
structure dW(v:Vw)(ls:List (ByteArray × Ex))(env:List (ByteArray × Int))(e:Ex)(D0:List Nat)(st0:List (ByteArray × Val))(k:Nat)(D:List Nat)(st:List (ByteArray × Val)):Prop where
 ok:lq ls env D st
 pre:∀j∈(az e ls).take k,j∈D
 run:gU v ls (az e ls) D0 st0=gU v ls ((az e ls).drop k) D st
theorem dW.zero{v:Vw}{ls:List (ByteArray × Ex)}{env:List (ByteArray × Int)}(e:Ex){D:List Nat}{st:List (ByteArray × Val)}(h:lq ls env D st):dW v ls env e D st 0 D st:=⟨h,fun j hj=>by simp at hj,rfl⟩
section
variable {v : Vw} {ls : List (ByteArray × Ex)} {env : List (ByteArray × Int)} {e : Ex} {D0 D : List Nat} {st0 st : List (ByteArray × Val)} {k : Nat}
theorem qf(hk:k<(az e ls).length):(az e ls).drop k=(az e ls).getD k 0::(az e ls).drop (k+1):=by
 exact Qi
theorem sF(hk:k<(az e ls).length):(az e ls).getD k 0∈az e ls:=by
 rw [getD_eq_getElem?_getD,getElem?_eq_getElem hk];exact getElem_mem hk
theorem vZ(hk:k<(az e ls).length):(az e ls).take (k+1)=(az e ls).take k++[(az e ls).getD k 0]:=by
 exact Qj
theorem Bf(hk:k<(az e ls).length){j:Nat}(hj:j∈az e ls)(hlt:j<(az e ls).getD k 0):j∈(az e ls).take k:=by
 obtain⟨m,hm,rfl⟩:=mem_iff_getElem.1 hj;have hp:=qh (e:=e) (ls:=ls) ls.length (Nat.le_refl _);rw [getD_eq_getElem?_getD,getElem?_eq_getElem hk]at hlt;refine mem_take_iff_getElem.2 ⟨m, ?_,rfl⟩;rcases Nat.lt_or_ge m k with h|h
 ·omega
 ·exfalso;rcases Nat.lt_or_eq_of_le h with h|h
  ·have:=pairwise_iff_getElem.1 hp k m hk hm h;simp only [Option.getD_some]at hlt;unfold az at hlt;omega
  ·subst h;simp at hlt
theorem dW.skip(h:dW v ls env e D0 st0 k D st)(hk:k<(az e ls).length)(hc:D.contains ((az e ls).getD k 0)=true):dW v ls env e D0 st0 (k+1) D st:=
 ⟨h.ok,fun j hj=>by
  rw [vZ hk]at hj;rcases mem_append.1 hj with hj|hj
  ·exact h.pre j hj
  ·obtain rfl:j=_:=by simpa using hj
   exact contains_iff_mem.1 hc,by rw [h.run,qf hk,gU,if_pos hc]⟩
theorem dW.typed(h:dW v ls env e D0 st0 k D st)(hl:iA ls ls.length env)(hk:k<(az e ls).length) :
 aN (ls.getD ((az e ls).getD k 0) default).2=true/\aD (aS st) (ls.getD ((az e ls).getD k 0) default).2=((env.getD ((az e ls).getD k 0) default).2,0)/\cB (ls.getD ((az e ls).getD k 0) default).2=true:=by
 have hu:=sF hk;have hil:=sD hu;have hb:=fun j (h1:j∈az e ls) h2=>Bf hk h1 h2;generalize(az e ls).getD k 0=i at *;have ht:=hl.ty i hil;unfold aR at ht
 split at ht
 ·rename_i hv
  have hvb:=hv.1
  have hf:aN (ls.getD i default).2=true:=by
   unfold cB at hvb;rw [Bool.and_eq_true]at hvb;exact hvb.2
  refine⟨hf, ?_,hvb⟩;rw [h.ok.typed hl ze hf (by rw [ht]) fun j hj hm=>h.pre j (hb j (Be hu hj hm) hj),ht]
 ·have:=(Prod.mk.inj ht).2;cases this
theorem dW.bad(h:dW v ls env e D0 st0 k D st)(hk:k<(az e ls).length)(hc:D.contains ((az e ls).getD k 0)=false)(hv:(aj v st (ls.getD ((az e ls).getD k 0) default).2).2≠0) :
 gU v ls (az e ls) D0 st0=(D,st,(aj v st (ls.getD ((az e ls).getD k 0) default).2).2):=by
 rw [h.run,qf hk,gU,if_neg (by rw [hc];simp),if_pos hv]
theorem dW.next(h:dW v ls env e D0 st0 k D st)(hl:iA ls ls.length env)(hok:v.ok=true)(hk:k<(az e ls).length)(hc:D.contains ((az e ls).getD k 0)=false)(hv:(aj v st (ls.getD ((az e ls).getD k 0) default).2).2=0) :
 dW v ls env e D0 st0 (k+1) (D++[(az e ls).getD k 0]) (st++[((ls.getD ((az e ls).getD k 0) default).1,(aj v st (ls.getD ((az e ls).getD k 0) default).2).1)]):=by
 obtain⟨hf,ht,-⟩:=h.typed hl hk;have hval:=lW hok h.ok.ok _ hf (by rw [ht]);rw [ht]at hval;obtain⟨hx,hd⟩:=hval.good hv;refine⟨h.ok.push hl (sD (sF hk)) hc hx hd,fun j hj=>?_, ?_⟩
 ·rw [vZ hk]at hj;rcases mem_append.1 hj with hj|hj
  ·exact mem_append.2 (.inl (h.pre j hj))
  ·exact mem_append.2 (.inr hj)
 ·rw [h.run,qf hk,gU,if_neg (by rw [hc];simp),if_neg (by simpa using hv)]
theorem dW.done(h:dW v ls env e D0 st0 (az e ls).length D st):gU v ls (az e ls) D0 st0=(D,st,0):=by
 rw [h.run,drop_length,gU]
theorem dW.last(h:dW v ls env e D0 st0 (az e ls).length D st)(hl:iA ls ls.length env){m:Int}(hf:aN e=true)(ht:aD env e=(m,0)):aD (aS st) e=(m,0):=by
 have he:env.take ls.length=env:=take_of_length_le (by rw [hl.len];exact Nat.le_refl _);have:=h.ok.typed hl (Nat.le_refl _) hf (by rw [he,ht]) fun j hj hm=>h.pre j (by rw [take_length];exact Bd hj hm);rw [this,he,ht]
end
def eZ(v:Vw)(ls:List (ByteArray × Ex))(e:Ex)(nm:ByteArray)(D:List Nat)(st:List (ByteArray × Val)):List Nat × List (ByteArray × Val) × Int:=
 if(gU v ls (az e ls) D st).2.2≠0 then gU v ls (az e ls) D st
 else if(aj v (gU v ls (az e ls) D st).2.1 e).2≠0 then((gU v ls (az e ls) D st).1,(gU v ls (az e ls) D st).2.1,(aj v (gU v ls (az e ls) D st).2.1 e).2)
 else((gU v ls (az e ls) D st).1,(gU v ls (az e ls) D st).2.1++[(nm,(aj v (gU v ls (az e ls) D st).2.1 e).1)],0)
def ifN:ByteArray:=⟨#[105,102]⟩
def kI:ByteArray:=⟨#[112,97,121]⟩
def byN:ByteArray:=⟨#[98,121]⟩
theorem oZ:fq ifN=false/\fq kI=false/\fq byN=false:=by decide+kernel
theorem wW{env:List (ByteArray × Int)}{e:Ex}{m:Int}(h:aR env e=(m,0)):cB e=true/\aN e=true/\aD env e=(m,0):=by
 unfold aR at h
 split at h
 ·rename_i hv
  have hvb:=hv.1;refine⟨hvb, ?_,h⟩;unfold cB at hvb;rw [Bool.and_eq_true]at hvb;exact hvb.2
 ·have:=(Prod.mk.inj h).2;cases this
theorem Ag{env:List (ByteArray × Int)}{e:Ex}{want:Int}(h:dS env e want=0):aR env e=(want,0):=by
 unfold dS at h
 split at h
 ·cases h
 ·rename_i h1
  refine Prod.ext (Decidable.byContradiction fun c=>h1 ⟨h,c⟩) h
theorem Co{env:List (ByteArray × Int)}:∀(l:List (Int × Ex × Ex)) (pre:List Int),grG env pre l=0->∀g∈l,aR env g.2.1=(1,0)/\aR env g.2.2=(4,0)
 | [],_,_,_,h=>by cases h
 |g::r,pre,h,x,hx=>by
  rw [grG]at h
  split at h
  ·cases h
  split at h
  ·rename_i h1;exact absurd h h1
  rename_i h1
  split at h
  ·rename_i h2;exact absurd h h2
  rename_i h2
  rcases mem_cons.1 hx with rfl|hx
  ·exact⟨Ag (Decidable.byContradiction h1),Ag (Decidable.byContradiction h2)⟩
  ·exact Co r _ h x hx
theorem Br{env:List (ByteArray × Int)}:∀(l:List (Int × Ex)) (pre:List Int),reG env pre l=0->∀g∈l,aR env g.2=(2,0)
 | [],_,_,_,h=>by cases h
 |g::r,pre,h,x,hx=>by
  rw [reG]at h
  split at h
  ·cases h
  split at h
  ·rename_i h1;exact absurd h h1
  rename_i h1
  rcases mem_cons.1 hx with rfl|hx
  ·exact Ag (Decidable.byContradiction h1)
  ·exact Br r _ h x hx
structure Gx(V:dH)(env:List (ByteArray × Int)):Prop where
 ls:iA V.le V.le.length env
 gr:∀g∈V.gr,aR env g.2.1=(1,0)/\aR env g.2.2=(4,0)
 re:∀g∈V.re,aR env g.2=(2,0)
theorem Gx.of{V:dH}(h:bF V=0):Gx V (dJ V.le).1:=by
 unfold bF at h
 split at h
 ·rename_i h1;exact absurd h h1
 rename_i h1
 split at h
 ·cases h
 split at h
 ·cases h
 split at h
 ·rename_i h2;exact absurd h h2
 rename_i h2
 have h0:(dJ V.le).2=0:=Decidable.byContradiction h1;have hg:grG (dJ V.le).1 [] V.gr=0:=Decidable.byContradiction h2;refine⟨?_,Co _ _ hg,Br _ _ h⟩
 have hl:V.le.length<=10:=by
  unfold dJ at h0
  split at h0
  ·cases h0
  ·omega
 rw [qx hl]at h0 ⊢;exact iA.of_lets (Prod.ext rfl h0)
def wQ(st:List (ByteArray × Val)):Val:=(st.getLastD (⟨#[]⟩,.zero)).2
theorem kY(st:List (ByteArray × Val))(p:ByteArray × Val):wQ (st++[p])=p.2:=by
 unfold wQ;simp
def ig(v:Vw)(ls:List (ByteArray × Ex))(g:Int × Ex × Ex):(Bool × Int × Int) × List (ByteArray × Val) × Int:=
 if(eZ v ls g.2.1 ifN [] []).2.2≠0 then((false,0,0),[],(eZ v ls g.2.1 ifN [] []).2.2)
 else if(wQ (eZ v ls g.2.1 ifN [] []).2.1).yes=false then((false,0,1),(eZ v ls g.2.1 ifN [] []).2.1,0)
 else if(eZ v ls g.2.2 kI (eZ v ls g.2.1 ifN [] []).1 (eZ v ls g.2.1 ifN [] []).2.1).2.2≠0 then((false,0,0),[],(eZ v ls g.2.2 kI (eZ v ls g.2.1 ifN [] []).1 (eZ v ls g.2.1 ifN [] []).2.1).2.2)
 else((true,if(wQ (eZ v ls g.2.2 kI (eZ v ls g.2.1 ifN [] []).1 (eZ v ls g.2.1 ifN [] []).2.1).2.1).n<0 then(0,1)else((wQ (eZ v ls g.2.2 kI (eZ v ls g.2.1 ifN [] []).1 (eZ v ls g.2.1 ifN [] []).2.1).2.1).n,(wQ (eZ v ls g.2.2 kI (eZ v ls g.2.1 ifN [] []).1 (eZ v ls g.2.1 ifN [] []).2.1).2.1).d)),(eZ v ls g.2.2 kI (eZ v ls g.2.1 ifN [] []).1 (eZ v ls g.2.1 ifN [] []).2.1).2.1,0)
def fH(V:dH)(b:Int)(v:Vw):(Bool × Int × Int) × List (ByteArray × Val) × Int:=
 if v.ok=false then((false,0,0),[],1)else if bF V≠0 then((false,0,0),[],bF V)
 else match V.gr.find? fun g=>decide (g.1=b)with
 |none=>((false,0,0),[],9)
 |some g=>ig v V.le g
section
variable {v : Vw} {ls : List (ByteArray × Ex)} {e : Ex} {nm : ByteArray} {D0 D D2 : List Nat} {st0 st st2 : List (ByteArray × Val)} {c : Int} {x p : Val} {g : Int × Ex × Ex}
theorem Mh(h:(gU v ls (az e ls) D0 st0).2.2=c)(hc:c≠0):(eZ v ls e nm D0 st0).2.2=c:=by
 subst h;unfold eZ;rw [if_pos hc]
theorem Mg(h:gU v ls (az e ls) D0 st0=(D,st,0))(hv:(aj v st e).2=c)(hc:c≠0):(eZ v ls e nm D0 st0).2.2=c:=by
 subst hv;unfold eZ;rw [h,if_neg zg,if_pos hc]
theorem Mf(h:gU v ls (az e ls) D0 st0=(D,st,0))(hv:aj v st e=(x,0)):eZ v ls e nm D0 st0=(D,st++[(nm,x)],0):=by
 unfold eZ;rw [h,if_neg zg,hv,if_neg zg]
theorem LP(h:(eZ v ls g.2.1 ifN [] []).2.2=c)(hc:c≠0):ig v ls g=((false,0,0),[],c):=by
 subst h;unfold ig;rw [if_pos hc]
theorem P9(h:eZ v ls g.2.1 ifN [] []=(D,st++[(ifN,x)],0))(hx:x.yes=false):ig v ls g=((false,0,1),st++[(ifN,x)],0):=by
 unfold ig;rw [h,if_neg zg,kY,if_pos hx]
theorem LM(h:eZ v ls g.2.1 ifN [] []=(D,st++[(ifN,x)],0))(hx:x.yes=true)(h2:(eZ v ls g.2.2 kI D (st++[(ifN,x)])).2.2=c)(hc:c≠0):ig v ls g=((false,0,0),[],c):=by
 subst h2;unfold ig;rw [h,if_neg zg,kY,if_neg (by rw [hx];simp),if_pos hc]
theorem P8(h:eZ v ls g.2.1 ifN [] []=(D,st++[(ifN,x)],0))(hx:x.yes=true)(h2:eZ v ls g.2.2 kI D (st++[(ifN,x)])=(D2,st2++[(kI,p)],0)):ig v ls g=((true,if p.n<0 then(0,1)else(p.n,p.d)),st2++[(kI,p)],0):=by
 unfold ig;rw [h,if_neg zg,kY,if_neg (by rw [hx];simp),h2,if_neg zg,kY]
end
theorem Ay{β:Type}[Inhabited (Int × β)]{l:List (Int × β)}{b:Int}:∀k,k<=l.length->(∀j,j<k->(l.getD j default).1≠b)->l.find? (fun g=>decide (g.1=b))=(l.drop k).find? fun g=>decide (g.1=b)
 |0,_,_=>rfl
 |k+1,hk,hn=>by
  have hk':k<l.length:=by omega
  rw [Ay k ze fun j hj=>hn j ze,jI hk',find?_cons,decide_eq_false (hn k ze)]
theorem xH{β:Type}[Inhabited (Int × β)]{l:List (Int × β)}{b:Int}{k:Nat}(hk:k<l.length)(hn:∀j,j<k->(l.getD j default).1≠b)(hb:(l.getD k default).1=b):l.find? (fun g=>decide (g.1=b))=some (l.getD k default):=by
 rw [Ay k ze hn,jI hk,find?_cons,decide_eq_true hb]
theorem xI{β:Type}[Inhabited (Int × β)]{l:List (Int × β)}{b:Int}(hn:∀j,j<l.length->(l.getD j default).1≠b):l.find? (fun g=>decide (g.1=b))=none:=by
 rw [Ay l.length (Nat.le_refl _) hn,drop_length];rfl
theorem Cu{V:dH}{b:Int}{v:Vw}(h:v.ok=false):fH V b v=((false,0,0),[],1):=by unfold fH;rw [if_pos h]
theorem Gh{V:dH}{b:Int}{v:Vw}(h:v.ok=true)(h2:bF V≠0):fH V b v=((false,0,0),[],bF V):=by unfold fH;rw [if_neg yu,if_pos h2]
theorem Cv{V:dH}{b:Int}{v:Vw}{g:Int × Ex × Ex}(h:v.ok=true)(h2:bF V=0)(hf:V.gr.find? (fun g=>decide (g.1=b))=some g):fH V b v=ig v V.le g:=by unfold fH;rw [if_neg yu,if_neg (by simpa using h2),hf]
theorem Cw{V:dH}{b:Int}{v:Vw}(h:v.ok=true)(h2:bF V=0)(hf:V.gr.find? (fun g=>decide (g.1=b))=none):fH V b v=((false,0,0),[],9):=by unfold fH;rw [if_neg yu,if_neg (by simpa using h2),hf]
theorem dW.of_run{v:Vw}{ls:List (ByteArray × Ex)}{env:List (ByteArray × Int)}{e:Ex}{D0 D:List Nat}{st0 st:List (ByteArray × Val)}(h:lq ls env D0 st0)(hl:iA ls ls.length env)(hok:v.ok=true)(hr:gU v ls (az e ls) D0 st0=(D,st,0)):dW v ls env e D0 st0 (az e ls).length D st:=by
 have key:∀k,k<=(az e ls).length->∃D st,dW v ls env e D0 st0 k D st:=by
  intro k
  induction k with
  |zero=>intro _;exact⟨D0,st0,dW.zero e h⟩
  |succ k ih=>
   intro hk;obtain⟨D1,st1,h1⟩:=ih ze;cases hc:D1.contains ((az e ls).getD k 0)
   ·by_cases hv:(aj v st1 (ls.getD ((az e ls).getD k 0) default).2).2=0
    ·exact⟨_,_,h1.next hl hok ze hc hv⟩
    ·have hb:=h1.bad ze hc hv;rw [hr]at hb;exact absurd (Prod.mk.inj (Prod.mk.inj hb).2).2.symm hv
   ·exact⟨_,_,h1.skip ze hc⟩
 obtain⟨D1,st1,h1⟩:=key _ (Nat.le_refl _);have hd:=h1.done;rw [hr]at hd;simp only [Prod.mk.injEq,and_true]at hd;obtain⟨rfl,rfl⟩:=hd;exact h1
end Go.Proofs.YtcfpoofhokbhlaaGreatDoor
