import Derived.Test.YtaghhncnicbedaaGreatDoorFTop
import Derived.Test.YtaghhncnicbedaaGreatDoorFLayB
import Derived.Test.YtaghhncnicbedaaGreatDoorFFrPd
import Derived.Test.YtaghhncnicbedaaGreatDoorFK
import Derived.Laws.BytesArg
import Derived.ProofKit
import Derived.SizedLaws
import Derived.Deep.Matrix
import Derived.Deep.Fields
import Derived.OpenShut
set_option linter.all false
set_option maxHeartbeats 16000000
set_option maxRecDepth 1000000
namespace Go.Proofs.YtaghhncnicbedaaGreatDoor
def EnvG(env:List (ByteArray × Int)):Prop:=∀p∈env,inpD p.1.toList=0∧nameB p.1=true∧1≤p.2∧p.2≤4∧lastN env p.1=some p.2
theorem EnvG.nil:EnvG []:=fun p hp=>by cases hp
theorem mkD_dvd{n d:Int}(h2:1≤d)(he:mkE n d=0):mkD n d ∣ d:=by
 unfold mkE lowE at he
 unfold mkD lowD
 rw [if_neg (by omega)]at he ⊢
 split at he<;>rename_i hc
 ·simp at he
 rw [if_neg hc]
 obtain⟨b,rfl⟩:=Int.eq_ofNat_of_zero_le (show 0≤d by omega)
 rw [Int.natAbs_natCast]
 exact Int.natCast_dvd_natCast.2 (Nat.div_dvd_of_dvd (Nat.gcd_dvd_right _ _))
theorem mkN_le{n d:Int}(h1:0≤n)(h2:1≤d):mkN n d≤n:=by
 unfold mkN lowN
 rw [if_neg (by omega),decide_eq_false (by omega),decide_eq_false (by omega)]
 split
 ·omega
 ·have:=Nat.div_le_self n.natAbs (Nat.gcd n.natAbs d.natAbs)
  simp only [bne_self_eq_false,Bool.false_eq_true,if_false]
  omega
theorem lit_ok{n d m:Int}(h1:0≤n)(h2:n≤1000000)(h3:1≤d)(h4:d ∣ 10000)(h5:2≤m∧m≤4):decOk (mkN n d) (mkD n d) m=true:=by
 have hd:d≤10000:=Int.le_of_dvd (by omega) h4
 have he:=mkE_small h1 (by omega) h3 (by omega)
 have hv:=mk_vfrac (show d≠0 by omega) he
 have hb:=vfrac_bd hv
 have hn:=mkN_nonneg h1 h3
 have hl:=mkN_le h1 h3
 have hdv:mkD n d ∣ 10000:=Int.dvd_trans (mkD_dvd h3 he) h4
 have hq:mkN n d / mkD n d≤mkN n d:=Int.ediv_le_self _ hn
 unfold decOk
 rw [hv,decide_eq_true hn,decide_eq_true (Int.emod_eq_zero_of_dvd hdv),decide_eq_true h5.1,decide_eq_true h5.2,decide_eq_true (by omega)]
 rfl
theorem num_ok(zs:List Int)(p:Nat){m:Int}(h5:2≤m∧m≤4):decOk (numN zs p) (numD zs p) m=true:=by
 have h1:=nextV_bd zs p 4000 (by omega)
 have h2:=nextV_bd zs (p+1) 7 (by omega)
 unfold numN numD
 refine lit_ok h1.1 (by omega) ?_ ?_ h5
 all_goals
  generalize nextV zs (p+1) 7=i at *
  rcases(show i=0∨i=1∨i=2∨i=3∨i=4∨i=5∨i=6 by omega)with rfl|rfl|rfl|rfl|rfl|rfl|rfl<;>decide
theorem inp_names:∀p∈inpN,nameB p.1=true∧inpD p.1.toList=p.2:=by decide+kernel
theorem name_in{env:List (ByteArray × Int)}(hE:EnvG env){dim:Int}(hd:2≤dim){s:ByteArray}(h:s∈allNames env dim):nameB s=true∧inferN env s=(dim,0):=by
 unfold allNames namesOf at h
 rcases List.mem_append.1 h with h|h
 ·obtain⟨p,hp,rfl⟩:=List.mem_map.1 h
  obtain⟨hp,hq⟩:=List.mem_filter.1 hp
  have hq:=of_decide_eq_true hq
  obtain⟨h1,h2⟩:=inp_names p hp
  refine⟨h1, ?_⟩
  unfold inferN
  rw [if_pos (by omega),h2,hq]
 ·obtain⟨p,hp,rfl⟩:=List.mem_map.1 h
  obtain⟨hp,hq⟩:=List.mem_filter.1 hp
  have hq:=of_decide_eq_true hq
  obtain⟨h1,h2,h3,h4,h5⟩:=hE p hp
  refine⟨h2, ?_⟩
  unfold inferN
  rw [if_neg (by omega),h5,hq]
def TypedE(env:List (ByteArray × Int))(dim:Int)(e:Ex):Prop:=formedB e=true∧inferF env e=(dim,0)
theorem leafN_typed(zs:List Int){env:List (ByteArray × Int)}(hE:EnvG env)(p:Nat){dim:Int}(h1:2≤dim)(h2:dim≤4):TypedE env dim (leafN zs env p dim).1:=by
 have hb:=nextV_bd zs p ((allNames env dim).length+3) (by omega)
 unfold leafN
 split<;>rename_i hc
 ·have hm:((allNames env dim).getD (nextV zs p ((allNames env dim).length+3)).toNat ByteArray.empty)∈allNames env dim:=by
   have hlt:(nextV zs p ((allNames env dim).length+3)).toNat<(allNames env dim).length:=by omega
   rw [List.getD_eq_getElem?_getD,List.getElem?_eq_getElem hlt]
   exact List.getElem_mem _
  obtain⟨g1,g2⟩:=name_in hE h1 hm
  generalize(allNames env dim).getD (nextV zs p ((allNames env dim).length+3)).toNat ByteArray.empty=nm at g1 g2 ⊢
  refine⟨?_, ?_⟩
  ·rw [formedB_eq]
   simp [Ex.op,Ex.args,Ex.name,Ex.num,Ex.den,Ex.dim,argsN,g1]
  ·rw [inferF_eq]
   unfold infNode
   exact g2
 ·split<;>rename_i hc2
  ·have h5:=nextV_bd zs (p+1) 5 (by omega)
   obtain⟨rfl,-⟩:=hc2
   refine⟨?_,by rw [inferF_eq];rfl⟩
   rw [formedB_eq]
   have e:ByteArray.empty.toList.isEmpty=true:=by decide+kernel
   simp [Ex.op,Ex.args,Ex.name,Ex.num,Ex.den,Ex.dim,argsN,e]
   exact⟨decide_eq_true (by omega),decide_eq_true (by omega)⟩
  ·refine⟨?_,by rw [inferF_eq];rfl⟩
   have:=num_ok zs (p+1) ⟨h1,h2⟩
   rw [formedB_eq]
   simp [Ex.op,Ex.args,Ex.name,Ex.num,Ex.den,Ex.dim,argsN,this]
def TypedL(env:List (ByteArray × Int))(ds:List Int)(l:List Ex):Prop:=formedsB l=true∧infersF env l=(ds,0)∧l.length=ds.length
theorem TypedL.nil(env:List (ByteArray × Int)):TypedL env [] []:=⟨rfl,rfl,rfl⟩
theorem TypedL.cons{env:List (ByteArray × Int)}{d:Int}{ds:List Int}{e:Ex}{l:List Ex}(h:TypedE env d e)(g:TypedL env ds l):TypedL env (d::ds) (e::l):=by
 refine⟨by rw [formedsB,h.1,g.1];rfl, ?_,by simp [g.2.2]⟩
 rw [infersF,h.2,g.2.1];simp
theorem node_typed{env:List (ByteArray × Int)}{op dim:Int}{ds:List Int}{l:List Ex}(g:TypedL env ds l)(h4:4≤op)(ha:(ds.length:Int)=argsN op)(hr:resD op ds=dim)(hd:dim≠0):TypedE env dim (.mk op 0 0 0 ByteArray.empty l):=by
 refine⟨?_, ?_⟩
 ·rw [formedB_eq]
  show(decide ((l.length:Int)=argsN op)&&_)=true
  rw [decide_eq_true (by rw [g.2.2];exact ha),Bool.true_and]
  show(if op=1 then _ else _)=true
  rw [if_neg (by omega),if_neg (by show ¬op=2;omega),if_neg (by show ¬op=3;omega)]
  show(formedsB l&&_)=true
  have e:ByteArray.empty.toList.isEmpty=true:=by decide+kernel
  rw [g.1];simp [Ex.num,Ex.den,Ex.dim,Ex.name,e]
 ·rw [inferF_eq]
  show infNode op 0 _ (infersF env l)=_
  rw [g.2.1]
  unfold infNode
  rw [if_neg (by omega),if_neg (by omega),if_neg (by omega),if_neg (by simp)]
  show(if resD op ds=0 then _ else _)=_
  rw [hr,if_neg hd]
theorem leafF_typed(zs:List Int){env:List (ByteArray × Int)}(hE:EnvG env)(p:Nat)(left:Int){dim:Int}(h1:1≤dim)(h2:dim≤4):TypedE env dim (leafF zs env dim p left).1:=by
 unfold leafF
 split<;>rename_i hc
 ·subst hc
  have a:=nextV_bd zs p 3 (by omega)
  have b:=nextV_bd zs (p+1) 6 (by omega)
  generalize nextV zs p 3=x at *
  generalize nextV zs (p+1) 6=o at *
  refine node_typed (ds:=[2+x,2+x]) (.cons (leafN_typed zs hE _ (by omega) (by omega)) (.cons (leafN_typed zs hE _ (by omega) (by omega)) (.nil _))) (by omega) ?_ ?_ (by omega)
  ·unfold argsN;rw [if_neg (by omega),if_neg (by omega),if_pos (by omega)];rfl
  ·rw [res_cmp _ _ ⟨by omega,by omega⟩,if_pos ⟨rfl,by omega⟩]
 ·exact leafN_typed zs hE p (by omega) h2
def prodT(dim:Int):Option (Int × List Int × Nat)→Prop
 |none=>True
 |some t=>4≤t.1∧(t.2.1.length:Int)=argsN t.1∧resD t.1 t.2.1=dim∧∀d∈t.2.1,1≤d∧d≤4
theorem prodT_ite{dim:Int}{c:Prop}[Decidable c]{a b:Option (Int × List Int × Nat)}(ha:c→prodT dim a)(hb:¬c→prodT dim b):prodT dim (if c then a else b):=by
 split<;>rename_i h
 ·exact ha h
 ·exact hb h
theorem prodF_typed(zs:List Int)(p:Nat){dim:Int}(h1:1≤dim)(h2:dim≤4):prodT dim (prodF zs p dim):=by
 have a:=nextV_bd zs p 14 (by omega)
 have b:=nextV_bd zs (p+1) 3 (by omega)
 have c:=nextV_bd zs (p+2) 6 (by omega)
 unfold prodF
 generalize nextV zs p 14=x at *
 generalize nextV zs (p+1) 3=y at *
 generalize nextV zs (p+2) 6=z at *
 rcases(show dim=1∨dim=2∨dim=3∨dim=4 by omega)with rfl|rfl|rfl|rfl
 all_goals
  repeat' (first|refine prodT_ite (fun _=>?_) (fun _=>?_))
  all_goals first
   |trivial
   |(exfalso;omega)
   |(refine⟨by show(4:Int)≤_;omega, ?_, ?_, ?_⟩
     ·show((_:List Int).length:Int)=argsN _
      unfold argsN
      (repeat' split)<;>first|rfl|(exfalso;omega)|(simp;done)
     ·unfold resD
      simp
      try omega
     ·intro d hd
      simp at hd
      omega)
theorem nodeF_typed{env:List (ByteArray × Int)}{E:Int→Nat→Int→Ex × Nat × Int}(hE:∀d p left,1≤d→d≤4→TypedE env d (E d p left).1)(ds:List Int):(∀d∈ds,1≤d∧d≤4)→∀p left,TypedL env ds (nodeF E ds p left).1:=by
 induction ds with
 |nil=>intro _ p left;exact .nil _
 |cons d ds ih=>
  intro h p left
  have hd:=h d (by simp)
  exact .cons (hE d p left hd.1 hd.2) (ih (fun x hx=>h x (by simp [hx])) _ _)
theorem exprF_typed(zs:List Int){env:List (ByteArray × Int)}(hE:EnvG env)(n:Nat):∀(dim:Int) (p:Nat) (left:Int),1≤dim→dim≤4→TypedE env dim (exprF zs env n dim p left).1:=by
 induction n with
 |zero=>intro dim p left h1 h2;exact leafF_typed zs hE p left h1 h2
 |succ n ih=>
  intro dim p left h1 h2
  by_cases hl:left≤0
  ·rw [exprF_leaf zs env _ dim p left (.inr hl)]
   exact leafF_typed zs hE p left h1 h2
  ·have hp:=prodF_typed zs p h1 h2
   cases hq:prodF zs p dim with
   |none=>
    rw [exprF_none zs env n dim p left (by omega) hq]
    exact leafF_typed zs hE _ _ h1 h2
   |some t=>
    obtain⟨op,ds,q⟩:=t
    rw [hq]at hp
    obtain⟨g1,g2,g3,g4⟩:=hp
    rw [exprF_some zs env n dim p left (by omega) hq]
    exact node_typed (nodeF_typed (fun d p left a b=>ih d p left a b) ds g4 q (left-2)) g1 g2 g3 (by omega)
theorem leafN_depth(zs:List Int)(env:List (ByteArray × Int))(p:Nat)(dim:Int):(leafN zs env p dim).1.depth=1:=by
 unfold leafN
 split
 ·simp [Ex.depth,Ex.depths]
 ·split<;>simp [Ex.depth,Ex.depths]
theorem leafF_depth(zs:List Int)(env:List (ByteArray × Int))(dim:Int)(p:Nat)(left:Int):(leafF zs env dim p left).1.depth≤2:=by
 unfold leafF
 split
 ·simp [Ex.depth,Ex.depths,leafN_depth]
 ·simp [leafN_depth]
theorem topF_typed(zs:List Int){env:List (ByteArray × Int)}(hE:EnvG env){dim:Int}(h1:1≤dim)(h2:dim≤4):TypedE env dim (topF zs env dim)∧validB (topF zs env dim)=true:=by
 unfold topF
 split<;>rename_i hv
 ·exact⟨exprF_typed zs hE 5 dim 0 24 h1 h2,hv⟩
 ·have ht:=leafF_typed zs hE (exprF zs env 5 dim 0 24).2.1 0 h1 h2
  refine⟨ht, ?_⟩
  have a:=leafF_depth zs env dim (exprF zs env 5 dim 0 24).2.1 0
  have b:=leafF_size zs env dim (exprF zs env 5 dim 0 24).2.1 0
  unfold validB
  rw [ht.1,decide_eq_true (by omega),decide_eq_true (by omega)]
  rfl
def letsG:List (ByteArray × Ex)→List (ByteArray × Int)→List (ByteArray × Int) × Int
 | [],env=>(env,0)
 |t::r,env=>
  if inpD t.1.toList≠0∨nameB t.1=false then([],5)
  else if env.any (fun p=>decide (p.1=t.1))=true then([],10)
  else if(inferE env t.2).2≠0 then([],(inferE env t.2).2)else letsG r (env++[(t.1,(inferE env t.2).1)])
structure LtAt(ls:List (ByteArray × Ex))(k:Nat)(env:List (ByteArray × Int)):Prop where
 all:letsG ls []=letsG (ls.drop k) env
 len:env.length=k
 nm:env.map Prod.fst=(ls.take k).map Prod.fst
theorem LtAt.zero(ls:List (ByteArray × Ex)):LtAt ls 0 []:=⟨rfl,rfl,by simp⟩
def ltStep(env:List (ByteArray × Int))(t:ByteArray × Ex):Int:=
 if inpD t.1.toList≠0∨nameB t.1=false then 5 else if env.any (fun p=>decide (p.1=t.1))=true then 10 else(inferE env t.2).2
theorem LtAt.drop{ls:List (ByteArray × Ex)}{k:Nat}(hk:k<ls.length):ls.drop k=ls.getD k default::ls.drop (k+1):=by
 rw [List.drop_eq_getElem_cons hk,List.getD_eq_getElem?_getD,List.getElem?_eq_getElem hk];rfl
theorem LtAt.next{ls:List (ByteArray × Ex)}{k:Nat}{env:List (ByteArray × Int)}(h:LtAt ls k env)(hk:k<ls.length)(hb:ltStep env (ls.getD k default)=0):LtAt ls (k+1) (env++[((ls.getD k default).1,(inferE env (ls.getD k default).2).1)]):=by
 refine⟨?_,by rw [List.length_append,h.len];rfl, ?_⟩
 ·rw [h.all,LtAt.drop hk,letsG]
  unfold ltStep at hb
  split at hb
  ·cases hb
  ·rename_i h1
   rw [if_neg h1]
   split at hb
   ·cases hb
   ·rename_i h2
    rw [if_neg h2,if_neg (by simpa using hb)]
 ·rw [List.map_append,h.nm,List.take_succ_eq_append_getElem hk,List.map_append]
  simp [List.getD_eq_getElem?_getD,List.getElem?_eq_getElem hk]
theorem LtAt.done{ls:List (ByteArray × Ex)}{env:List (ByteArray × Int)}(h:LtAt ls ls.length env):letsG ls []=(env,0):=by
 rw [h.all,List.drop_length,letsG]
theorem LtAt.dup{ls:List (ByteArray × Ex)}{k:Nat}{env:List (ByteArray × Int)}(h:LtAt ls k env)(hk:k≤ls.length)(s:ByteArray):env.any (fun p=>decide (p.1=s))=(List.range k).any fun j=>decide ((ls.getD j default).1=s):=by
 have h1:env.any (fun p=>decide (p.1=s))=(env.map Prod.fst).any fun x=>decide (x=s):=by rw [List.any_map];rfl
 rw [h1,h.nm,List.any_map,Bool.eq_iff_iff,List.any_eq_true,List.any_eq_true]
 constructor
 ·rintro⟨t,ht,hs⟩
  obtain⟨j,hj,rfl⟩:=List.mem_take_iff_getElem.1 ht
  have:j<ls.length:=by omega
  exact⟨j,List.mem_range.2 (by omega),by simpa [List.getD_eq_getElem?_getD,List.getElem?_eq_getElem this]using hs⟩
 ·rintro⟨j,hj,hs⟩
  have hj:=List.mem_range.1 hj
  have:j<ls.length:=by omega
  exact⟨ls[j],List.mem_take_iff_getElem.2 ⟨j,by omega,rfl⟩,by simpa [List.getD_eq_getElem?_getD,List.getElem?_eq_getElem this]using hs⟩
mutual
theorem infer_same{a b:List (ByteArray × Int)}:∀e:Ex,(∀s,mentB s e=true→inferN b s=inferN a s)→inferF b e=inferF a e
 | .mk op n d m s l,h=>by
   rw [inferF,inferF,infers_same l (fun x hx=>h x (by rw [mentB,hx,Bool.or_true]))]
   by_cases h2:op=2
   ·subst h2;rw [h s (by simp [mentB])]
   ·exact infNode_name h2
theorem infers_same{a b:List (ByteArray × Int)}:∀l:List Ex,(∀s,mentsB s l=true→inferN b s=inferN a s)→infersF b l=infersF a l
 | [],_=>by rw [infersF,infersF]
 |e::r,h=>by rw [infersF,infersF,infer_same e (fun x hx=>h x (by rw [mentsB,hx,Bool.true_or])),infers_same r (fun x hx=>h x (by rw [mentsB,hx,Bool.or_true]))]
end
theorem formed_leaf{op n d m:Int}{s:ByteArray}{l:List Ex}(h:formedB (.mk op n d m s l)=true)(ho:op=1∨op=2∨op=3):l= []:=by
 rw [formedB_eq,Bool.and_eq_true]at h
 have h1:(l.length:Int)=argsN op:=of_decide_eq_true h.1
 have h0:argsN op=0:=by unfold argsN;rw [if_pos (by omega)]
 exact List.eq_nil_of_length_eq_zero (by omega)
theorem formed_sub{op n d m:Int}{s:ByteArray}{l:List Ex}(h:formedB (.mk op n d m s l)=true)(h1:op≠1)(h2:op≠2)(h3:op≠3):formedsB l=true:=by
 rw [formedB_eq,Bool.and_eq_true]at h
 have:=h.2
 rw [if_neg (by exact h1),if_neg (by exact h2),if_neg (by exact h3),Bool.and_eq_true]at this
 exact this.1
mutual
theorem infer_named{a:List (ByteArray × Int)}{s:ByteArray}:∀e:Ex,formedB e=true→(inferF a e).2=0→mentB s e=true→(inferN a s).2=0
 | .mk op n d m nm l,hf,hi,hm=>by
   by_cases ho:op=1∨op=2∨op=3
   ·have hl:=formed_leaf hf ho
    subst hl
    rw [mentB,mentsB,Bool.or_false,Bool.and_eq_true]at hm
    have h2:op=2:=of_decide_eq_true hm.1
    have hs:nm=s:=of_decide_eq_true hm.2
    subst h2 hs
    rw [inferF]at hi
    exact hi
   ·have h1:op≠1:=fun h=>ho (.inl h)
    have h2:op≠2:=fun h=>ho (.inr (.inl h))
    have h3:op≠3:=fun h=>ho (.inr (.inr h))
    rw [mentB,decide_eq_false h2,Bool.false_and,Bool.false_or]at hm
    refine infers_named l (formed_sub hf h1 h2 h3) ?_ hm
    rw [inferF]at hi
    unfold infNode at hi
    rw [if_neg h1,if_neg h3,if_neg h2]at hi
    by_cases hr:(infersF a l).2=0
    ·exact hr
    ·rw [if_pos hr]at hi;exact hi
theorem infers_named{a:List (ByteArray × Int)}{s:ByteArray}:∀l:List Ex,formedsB l=true→(infersF a l).2=0→mentsB s l=true→(inferN a s).2=0
 | [],_,_,hm=>by rw [mentsB]at hm;cases hm
 |e::r,hf,hi,hm=>by
  rw [formedsB,Bool.and_eq_true]at hf
  rw [infersF]at hi
  have h1:(inferF a e).2=0:=by
   by_cases h:(inferF a e).2=0
   ·exact h
   ·rw [if_pos h]at hi;exact hi
  have h2:(infersF a r).2=0:=by
   rw [if_neg (by simpa using h1)]at hi
   by_cases h:(infersF a r).2=0
   ·exact h
   ·rw [if_pos h]at hi;exact hi
  rw [mentsB,Bool.or_eq_true]at hm
  rcases hm with hm|hm
  ·exact infer_named e hf.1 h1 hm
  ·exact infers_named r hf.2 h2 hm
end
theorem lastN_snoc{α:Type}(l:List (ByteArray × α))(p:ByteArray × α)(s:ByteArray):lastN (l++[p]) s=if p.1=s then some p.2 else lastN l s:=by
 unfold lastN
 rw [List.reverse_append,List.reverse_singleton,List.singleton_append,List.find?_cons]
 by_cases h:p.1=s
 ·rw [if_pos h,decide_eq_true h];rfl
 ·rw [if_neg h,decide_eq_false h]
structure LsOk(ls:List (ByteArray × Ex))(k:Nat)(env:List (ByteArray × Int)):Prop where
 len:env.length=k
 nm:∀i,i<k→(env.getD i default).1=(ls.getD i default).1
 ty:∀i,i<k→inferE (env.take i) (ls.getD i default).2=((env.getD i default).2,0)
 word:∀i,i<k→inpD (ls.getD i default).1.toList=0∧nameB (ls.getD i default).1=true
 inj:∀i j,i<j→j<k→(ls.getD i default).1≠(ls.getD j default).1
theorem LsOk.zero(ls:List (ByteArray × Ex)):LsOk ls 0 []:=⟨rfl,fun i h=>by omega,fun i h=>by omega,fun i h=>by omega,fun i j _ h=>by omega⟩
theorem getD_snoc{α:Type}[Inhabited α]{l:List α}{x:α}{i:Nat}:(l++[x]).getD i default=if i<l.length then l.getD i default else if i=l.length then x else default:=by
 simp only [List.getD_eq_getElem?_getD]
 by_cases h:i<l.length
 ·rw [if_pos h,List.getElem?_append_left h]
 ·rw [if_neg h,List.getElem?_append_right (by omega)]
  by_cases h2:i=l.length
  ·subst h2;simp
  ·rw [if_neg h2,List.getElem?_eq_none (by simp;omega)];rfl
theorem LsOk.next{ls:List (ByteArray × Ex)}{k:Nat}{env:List (ByteArray × Int)}(h:LsOk ls k env)(ha:LtAt ls k env)(hk:k<ls.length)(hb:ltStep env (ls.getD k default)=0) :
 LsOk ls (k+1) (env++[((ls.getD k default).1,(inferE env (ls.getD k default).2).1)]):=by
 have hl:=h.len
 unfold ltStep at hb
 split at hb
 ·cases hb
 rename_i h1
 split at hb
 ·cases hb
 rename_i h2
 have hdup:=ha.dup (by omega) (ls.getD k default).1
 have hd:∀j,j<k→(ls.getD j default).1≠(ls.getD k default).1:=fun j hj he=>by
  rw [hdup]at h2
  exact h2 (List.any_eq_true.2 ⟨j,List.mem_range.2 hj,decide_eq_true he⟩)
 refine⟨by rw [List.length_append,hl];rfl,fun i hi=>?_,fun i hi=>?_,fun i hi=>?_,fun i j hij hj=>?_⟩
 ·rw [getD_snoc]
  by_cases hik:i<k
  ·rw [if_pos (by omega)];exact h.nm i hik
  ·rw [if_neg (by omega),if_pos (by omega)]
   show(ls.getD k default).1=_
   rw [show i=k by omega]
 ·by_cases hik:i<k
  ·rw [List.take_append_of_le_length (by omega),getD_snoc,if_pos (by omega)];exact h.ty i hik
  ·obtain rfl:i=k:=by omega
   rw [List.take_append_of_le_length (by omega),List.take_of_length_le (by omega),getD_snoc,if_neg (by omega),if_pos hl.symm]
   exact Prod.ext rfl hb
 ·by_cases hik:i<k
  ·exact h.word i hik
  ·obtain rfl:i=k:=by omega
   exact⟨Decidable.byContradiction fun c=>h1 (.inl c),by
    cases hn:nameB (ls.getD i default).1
    ·exact absurd (.inr hn) h1
    ·rfl⟩
 ·by_cases hjk:j<k
  ·exact h.inj i j hij hjk
  ·obtain rfl:j=k:=by omega
   exact hd i hij
theorem LsOk.last{ls:List (ByteArray × Ex)}{k:Nat}{env:List (ByteArray × Int)}(h:LsOk ls k env){j:Nat}:∀i,j<i→i≤k→lastN (env.take i) (ls.getD j default).1=some (env.getD j default).2
 |0,hj,_=>by omega
 |i+1,hj,hi=>by
  have hl:=h.len
  rw [List.take_succ_eq_append_getElem (by omega),lastN_snoc]
  have hg:env[i]'(by omega)=env.getD i default:=by rw [List.getD_eq_getElem?_getD,List.getElem?_eq_getElem (by omega)];rfl
  rw [hg,h.nm i (by omega)]
  by_cases hji:j=i
  ·subst hji;rw [if_pos rfl]
  ·rw [if_neg (fun e=>h.inj j i (by omega) (by omega) e.symm)]
   exact h.last i (by omega) (by omega)
theorem LsOk.none{ls:List (ByteArray × Ex)}{k:Nat}{env:List (ByteArray × Int)}(h:LsOk ls k env){s:ByteArray}:∀i,i≤k→(∀j,j<i→(ls.getD j default).1≠s)→lastN (env.take i) s=none
 |0,_,_=>by simp [lastN]
 |i+1,hi,hs=>by
  have hl:=h.len
  rw [List.take_succ_eq_append_getElem (by omega),lastN_snoc]
  have hg:env[i]'(by omega)=env.getD i default:=by rw [List.getD_eq_getElem?_getD,List.getElem?_eq_getElem (by omega)];rfl
  rw [hg,h.nm i (by omega),if_neg (hs i (by omega))]
  exact h.none i (by omega) fun j hj=>hs j (by omega)
theorem LsOk.named{ls:List (ByteArray × Ex)}{k:Nat}{env:List (ByteArray × Int)}(h:LsOk ls k env){s:ByteArray}{i:Nat}(hi:i≤k)(ht:(inferN (env.take i) s).2=0):inpD s.toList≠0∨∃j,j<i∧(ls.getD j default).1=s:=by
 by_cases hs:inpD s.toList=0
 ·refine .inr (Decidable.byContradiction fun c=>?_)
  have:=h.none (s:=s) i hi fun j hj e=>c ⟨j,hj,e⟩
  unfold inferN at ht
  rw [if_neg (by simpa using hs),this]at ht
  cases ht
 ·exact .inl hs
structure StOk(ls:List (ByteArray × Ex))(env:List (ByteArray × Int))(D:List Nat)(st:List (ByteArray × Val)):Prop where
 ok:∀p∈st,p.2.ok=true
 dom:∀j∈D,j<ls.length
 look:∀j∈D,lastN (dimsOf st) (ls.getD j default).1=some (env.getD j default).2
 sub:∀j,j<ls.length→(st.any fun p=>decide (p.1=(ls.getD j default).1))=D.contains j
theorem StOk.zero(ls:List (ByteArray × Ex))(env:List (ByteArray × Int)):StOk ls env [] []:=⟨fun _ h=>(by cases h),fun _ h=>(by cases h),fun _ h=>(by cases h),fun _ _=>rfl⟩
theorem dims_snoc(st:List (ByteArray × Val))(p:ByteArray × Val):dimsOf (st++[p])=dimsOf st++[(p.1,p.2.dim)]:=by simp [dimsOf]
theorem StOk.push{ls:List (ByteArray × Ex)}{env:List (ByteArray × Int)}{D:List Nat}{st:List (ByteArray × Val)}(h:StOk ls env D st)(hl:LsOk ls ls.length env){i:Nat}(hi:i<ls.length)(hD:D.contains i=false){x:Val}(hx:x.ok=true)(hd:x.dim=(env.getD i default).2) :
 StOk ls env (D++[i]) (st++[((ls.getD i default).1,x)]):=by
 have ne:∀j,j<ls.length→j≠i→(ls.getD i default).1≠(ls.getD j default).1:=fun j hj hji=>by
  rcases Nat.lt_or_gt_of_ne hji with h1|h1
  ·exact fun e=>hl.inj j i h1 hi e.symm
  ·exact hl.inj i j h1 hj
 refine⟨fun p hp=>?_,fun j hj=>?_,fun j hj=>?_,fun j hj=>?_⟩
 ·rcases List.mem_append.1 hp with hp|hp
  ·exact h.ok p hp
  ·obtain rfl:p=_:=by simpa using hp
   exact hx
 ·rcases List.mem_append.1 hj with hj|hj
  ·exact h.dom j hj
  ·obtain rfl:j=i:=by simpa using hj
   exact hi
 ·rw [dims_snoc,lastN_snoc]
  rcases List.mem_append.1 hj with hj|hj
  ·have hji:j≠i:=fun e=>by
    have hc:D.contains j=true:=List.contains_iff_mem.2 hj
    rw [e,hD]at hc;cases hc
   rw [if_neg (ne j (h.dom j hj) hji)]
   exact h.look j hj
  ·obtain rfl:j=i:=by simpa using hj
   rw [if_pos rfl,hd]
 ·rw [List.any_append,h.sub j hj]
  by_cases hji:j=i
  ·subst hji;simp
  ·have:decide ((ls.getD i default).1=(ls.getD j default).1)=false:=decide_eq_false (ne j hj hji)
   rw [List.any_cons,List.any_nil,this,Bool.or_false,Bool.or_false,Bool.eq_iff_iff,List.contains_iff_mem,List.contains_iff_mem,List.mem_append]
   simp [hji]
theorem StOk.other{ls:List (ByteArray × Ex)}{env:List (ByteArray × Int)}{D:List Nat}{st:List (ByteArray × Val)}(h:StOk ls env D st)(hl:LsOk ls ls.length env){s:ByteArray}(hs:nameB s=false){x:Val}(hx:x.ok=true):StOk ls env D (st++[(s,x)]):=by
 have ne:∀j,j<ls.length→s≠(ls.getD j default).1:=fun j hj e=>by
  have:=(hl.word j hj).2
  rw [←e,hs]at this;cases this
 refine⟨fun p hp=>?_,h.dom,fun j hj=>?_,fun j hj=>?_⟩
 ·rcases List.mem_append.1 hp with hp|hp
  ·exact h.ok p hp
  ·obtain rfl:p=_:=by simpa using hp
   exact hx
 ·rw [dims_snoc,lastN_snoc,if_neg (ne j (h.dom j hj))]
  exact h.look j hj
 ·rw [List.any_append,h.sub j hj]
  have:decide (s=(ls.getD j default).1)=false:=decide_eq_false (ne j hj)
  rw [List.any_cons,List.any_nil,this,Bool.or_false,Bool.or_false]
theorem StOk.typed{ls:List (ByteArray × Ex)}{env:List (ByteArray × Int)}{D:List Nat}{st:List (ByteArray × Val)}(h:StOk ls env D st)(hl:LsOk ls ls.length env){i:Nat}(hi:i≤ls.length){e:Ex}(hf:formedB e=true)(ht:(inferF (env.take i) e).2=0)
 (hD:∀j,j<i→mentB (ls.getD j default).1 e=true→j∈D):inferF (dimsOf st) e=inferF (env.take i) e:=by
 refine infer_same e fun s hs=>?_
 rcases hl.named hi (infer_named e hf ht hs)with h0|⟨j,hj,rfl⟩
 ·unfold inferN;rw [if_pos h0,if_pos h0]
 ·unfold inferN
  rw [if_neg (by have:=(hl.word j (by omega)).1;simpa using this),if_neg (by have:=(hl.word j (by omega)).1;simpa using this),h.look j (hD j hj hs),hl.last i hj hi]
theorem lastN_atM{α:Type}(f:Nat→ByteArray × α)(n:Nat)(hne:∀i,i<n→∀j,j<n→(f i).1=(f j).1→i=j){i:Nat}(hi:i<n):lastN ((List.range n).map f) (f i).1=some (f i).2:=by
 induction n with
 |zero=>omega
 |succ n ih=>
  unfold lastN
  rw [List.range_succ,List.map_append,List.reverse_append,List.map_cons,List.map_nil,List.reverse_singleton,List.singleton_append,List.find?_cons]
  by_cases hin:i=n
  ·subst hin;simp
  ·have hf:decide ((f n).1=(f i).1)=false:=decide_eq_false (fun h=>hin (hne n (by omega) i (by omega) h).symm)
   rw [hf]
   exact ih (fun a ha b hb=>hne a (by omega) b (by omega)) (by omega)
def dimM(l:List (List Int))(i:Nat):Int:=1+((l.getD i []).length:Int) % 4
def envM(l:List (List Int))(i:Nat):List (ByteArray × Int):=(List.range i).map fun j=>(letN j,dimM l j)
def namesM(i:Nat):List ByteArray:=(List.range i).map letN
def dfnM(l:List (List Int))(i:Nat):Dfn:={κ:=slK (namesM i),e:=topF (l.getD i []) (envM l i) (dimM l i),k:=i,m:=dimM l i,env:=envM l i}
theorem dimM_bd(l:List (List Int))(i:Nat):1≤dimM l i∧dimM l i≤4:=by unfold dimM;omega
theorem letN_ok:∀j,j<5→nameB (letN j)=true∧inpD (letN j).toList=0∧isWord (letN j)=true:=by decide+kernel
theorem letN_inj:∀i,i<5→∀j,j<5→letN i=letN j→i=j:=by decide+kernel
theorem envM_ok{l:List (List Int)}{i:Nat}(hi:i≤5):EnvG (envM l i):=fun p hp=>by
 obtain⟨j,hj,rfl⟩:=List.mem_map.1 hp
 have hj:=List.mem_range.1 hj
 obtain⟨h1,h2,-⟩:=letN_ok j (by omega)
 exact⟨h2,h1,(dimM_bd l j).1,(dimM_bd l j).2,lastN_atM (fun j=>(letN j,dimM l j)) i (fun a ha b hb e=>letN_inj a (by omega) b (by omega) e) hj⟩
theorem envM_last{l:List (List Int)}{i:Nat}(hi:i≤5){s:ByteArray}(h0:inpD s.toList=0)(h:(inferN (envM l i) s).2=0):∃j,j<i∧s=letN j∧(inferN (envM l i) s).1=dimM l j:=by
 unfold inferN at *
 rw [if_neg (by simpa using h0)]at *
 cases e:lastN (envM l i) s with
 |none=>rw [e]at h;simp at h
 |some m=>
  unfold lastN at e
  obtain⟨p,hp,hpm⟩:=Option.map_eq_some_iff.1 e
  have h1:=List.mem_reverse.1 (List.mem_of_find?_eq_some hp)
  have h2:=List.find?_some hp
  simp only [decide_eq_true_eq]at h2
  obtain⟨j,hj,rfl⟩:=List.mem_map.1 h1
  exact⟨j,List.mem_range.1 hj,h2.symm,hpm.symm⟩
theorem slK_names{i j:Nat}(hi:i≤5)(hj:j<i):slK (namesM i) (letN j)=j:=by
 unfold slK namesM
 have:((List.range i).map letN).findIdx? (fun x=>decide (x=letN j))=some j:=by
  rw [List.findIdx?_eq_some_iff_getElem]
  refine⟨by simpa using hj,by simp,fun k hk=>?_⟩
  simp only [List.getElem_map,List.getElem_range,decide_eq_true_eq]
  intro e
  have:=letN_inj k (by omega) j (by omega) e
  omega
 rw [this];rfl
def setM(i:Nat):List Bool:=(List.range 12).map fun k=>decide (k<i)
def dmsM(l:List (List Int))(i:Nat):List Int:=(List.range 12).map fun k=>if k<i then dimM l k else 0
theorem setM_get{i k:Nat}(h:k<12):(setM i).getD k false=decide (k<i):=by
 unfold setM;simp [List.getD_eq_getElem?_getD,List.getElem?_map,List.getElem?_range h]
theorem dmsM_get{l:List (List Int)}{i k:Nat}(h:k<12):(dmsM l i).getD k 0=if k<i then dimM l k else 0:=by
 unfold dmsM;simp [List.getD_eq_getElem?_getD,List.getElem?_map,List.getElem?_range h]
theorem setM_next{i:Nat}(h:i<12):(setM i).set i true=setM (i+1):=by
 apply List.ext_getElem?
 intro k
 unfold setM
 rw [List.getElem?_set]
 by_cases hk:k<12
 ·simp only [List.getElem?_map,List.getElem?_range hk,List.length_map,List.length_range,Option.map_some]
  by_cases e:i=k
  ·subst e;simp [h]
  ·simp [e];omega
 ·rw [List.getElem?_eq_none (by simp;omega),List.getElem?_eq_none (by simp;omega)]
  simp;omega
theorem dmsM_next{l:List (List Int)}{i:Nat}(h:i<12):(dmsM l i).set i (dimM l i)=dmsM l (i+1):=by
 apply List.ext_getElem?
 intro k
 unfold dmsM
 rw [List.getElem?_set]
 by_cases hk:k<12
 ·simp only [List.getElem?_map,List.getElem?_range hk,List.length_map,List.length_range,Option.map_some]
  by_cases e:i=k
  ·subst e;simp [h]
  ·simp only [if_neg e]
   by_cases hki:k<i
   ·rw [if_pos hki,if_pos (by omega)]
   ·rw [if_neg hki,if_neg (by omega)]
 ·rw [List.getElem?_eq_none (by simp;omega),List.getElem?_eq_none (by simp;omega)]
  simp;omega
theorem nm_made{l:List (List Int)}{i mm:Nat}(hi:i≤5)(hm:i≤mm){e:Ex}{d:Int}(hf:formedB e=true)(ht:inferF (envM l i) e=(d,0)):NmOk (slK (namesM i)) e (envM l i) mm (setM i) (dmsM l i):=fun s hs hk=>by
 have h2:=infer_named e hf (by rw [ht]) hs
 obtain⟨j,hj,rfl,h3⟩:=envM_last hi (inpK_none hk) h2
 rw [slK_names hi hj,setM_get (by omega),dmsM_get (by omega),if_pos hj,h3]
 exact⟨by omega,by simpa using hj,rfl⟩
theorem defs_made(l:List (List Int))(mm:Nat):∀(n i:Nat),i+n≤5→i+n≤mm→DefsOk mm (setM i) (dmsM l i) ((List.range' i n).map (dfnM l))
 |0,_,_,_=>trivial
 |n+1,i,h5,hm=>by
  rw [List.range'_succ,List.map_cons]
  have hb:=dimM_bd l i
  obtain⟨g1,g2⟩:=topF_typed (l.getD i []) (envM_ok (l:=l) (i:=i) (by omega)) hb.1 hb.2
  have hdp:(topF (l.getD i []) (envM l i) (dimM l i)).depth≤24:=by
   unfold validB at g2
   simp only [Bool.and_eq_true,decide_eq_true_eq]at g2
   omega
  refine⟨⟨g1.1,g1.2,hdp,by show i<mm;omega,nm_made (by omega) (by omega) g1.1 g1.2⟩, ?_⟩
  have:=defs_made l mm n (i+1) (by omega) (by omega)
  rw [←setM_next (by omega),←dmsM_next (by omega)]at this
  exact this
theorem seqC_len{κ:ByteArray→Nat}:∀(xs:List Ex),(∀a∈xs,∀i,(codeF κ a i).length≤3*a.size)→∀i,(seqC (codesF κ xs) i).length≤3*Ex.sizes xs
 | [],_,_=>Nat.zero_le _
 |a::r,h,i=>by
  simp only [codesF,seqC,List.length_append,Ex.sizes]
  have h1:=h a (by simp) i
  have h2:=seqC_len r (fun b hb=>h b (List.mem_cons_of_mem _ hb)) (i+(codeF κ a i).length)
  omega
theorem brC_len{A B C:Nat→List Ins}{a b c:Nat}(hA:∀i,(A i).length≤a)(hB:∀i,(B i).length≤b)(hC:∀i,(C i).length≤c)(i:Nat):(brC A B C i).length≤a+b+c+2:=by
 unfold brC
 simp only [List.length_append,List.length_cons]
 have h1:=hA i
 have h2:=hB (i+(A i).length+1)
 have h3:=hC (i+(A i).length+1+(B (i+(A i).length+1)).length+1)
 omega
theorem args_len{κ:ByteArray→Nat}(xs:List Ex)(h:∀a∈xs,∀i,(codeF κ a i).length≤3*a.size)(k i:Nat):((codesF κ xs).getD k (fun _=>[]) i).length≤3*((xs.getD k default).size):=by
 induction xs generalizing k with
 |nil=>simp [codesF]
 |cons a r ih=>
  cases k with
  |zero=>exact h a (by simp) i
  |succ k=>exact ih (fun b hb=>h b (List.mem_cons_of_mem _ hb)) k
theorem sizes_three(xs:List Ex)(h:xs.length=3):(xs.getD 0 default).size+(xs.getD 1 default).size+(xs.getD 2 default).size=Ex.sizes xs:=by
 match xs,h with
 | [a,b,c],_=>simp [Ex.sizes];omega
theorem sizes_two(xs:List Ex)(h:xs.length=2):(xs.getD 0 default).size+(xs.getD 1 default).size=Ex.sizes xs:=by
 match xs,h with
 | [a,b],_=>simp [Ex.sizes]
mutual
theorem code_len{κ:ByteArray→Nat}:∀e:Ex,formedB e=true→∀i,(codeF κ e i).length≤3*e.size
 | .mk op n d m s xs,hf,i=>by
   rw [formedB,Bool.and_eq_true,decide_eq_true_eq]at hf
   obtain⟨hlen,hf⟩:=hf
   rw [codeF,Ex.size]
   unfold codeNode
   by_cases h1:op=1
   ·rw [if_pos h1];simp;omega
   by_cases h2:op=2
   ·rw [if_neg h1,if_pos h2];simp;omega
   by_cases h3:op=3
   ·rw [if_neg h1,if_neg h2,if_pos h3];simp;omega
   rw [if_neg h1,if_neg h2,if_neg h3]at hf ⊢
   have hx:=codes_len (κ:=κ) xs (Bool.and_eq_true_iff.1 hf).1
   have a0:=fun i=>args_len xs hx 0 i
   have a1:=fun i=>args_len xs hx 1 i
   have a2:=fun i=>args_len xs hx 2 i
   by_cases h17:op=17
   ·rw [if_pos h17]
    have hs:=sizes_two xs (by rw [h17]at hlen;simp [argsN]at hlen;omega)
    have:=brC_len a0 a1 (C:=fun _=>[⟨24,0,0,0⟩]) (c:=1) (fun _=>Nat.le_refl 1) i
    omega
   by_cases h18:op=18
   ·rw [if_neg h17,if_pos h18]
    have hs:=sizes_two xs (by rw [h18]at hlen;simp [argsN]at hlen;omega)
    have:=brC_len a0 (B:=fun _=>[⟨23,0,0,0⟩]) (b:=1) (fun _=>Nat.le_refl 1) a1 i
    omega
   by_cases h21:op=21
   ·rw [if_neg h17,if_neg h18,if_pos h21]
    have hs:=sizes_three xs (by rw [h21]at hlen;simp [argsN]at hlen;omega)
    have:=brC_len a0 a1 a2 i
    omega
   rw [if_neg h17,if_neg h18,if_neg h21,List.length_append,List.length_singleton]
   have:=seqC_len xs hx i
   omega
theorem codes_len{κ:ByteArray→Nat}:∀xs:List Ex,formedsB xs=true→∀a∈xs,∀i,(codeF κ a i).length≤3*a.size
 | [],_,_,ha,_=>by cases ha
 |e::r,hf,a,ha,i=>by
  rw [formedsB,Bool.and_eq_true]at hf
  rcases List.mem_cons.1 ha with h|ha
  ·rw [h];exact code_len e hf.1 i
  ·exact codes_len r hf.2 a ha i
end
theorem defsC_len:∀(ds:List Dfn) (i:Nat),(∀d∈ds,∀i,(codeF d.κ d.e i).length≤180)→(defsC ds i).length≤181*ds.length
 | [],_,_=>Nat.zero_le _
 |d::r,i,h=>by
  rw [defsC,List.length_append,List.length_cons]
  have h1:=h d (by simp) i
  have h2:=defsC_len r (i+(d.code i).length) (fun b hb=>h b (List.mem_cons_of_mem _ hb))
  have hcl:(d.code i).length=(codeF d.κ d.e i).length+1:=by unfold Dfn.code;rw [List.length_append];rfl
  omega
theorem words_made{n:Nat}(h:n≤5):wordsF (namesM n)=true:=by
 have:n=0∨n=1∨n=2∨n=3∨n=4∨n=5:=by omega
 rcases this with rfl|rfl|rfl|rfl|rfl|rfl<;>decide+kernel
def madeC(l:List (List Int))(g:List Int):List Ins:=
 if g= []∨l= []then defsC ((List.range' 0 (min l.length 5)).map (dfnM l)) 0
 else defsC ((List.range' 0 (min l.length 5-1)).map (dfnM l)) 0++guardC (codeF (slK (namesM (min l.length 5-1))) (topF g (envM l (min l.length 5-1)) 1)) [dfnM l (min l.length 5-1)] (defsC ((List.range' 0 (min l.length 5-1)).map (dfnM l)) 0).length
theorem good_made{l:List (List Int)}{i:Nat}(hi:i≤5)(zs:List Int){dim:Int}(h1:1≤dim)(h4:dim≤4):formedB (topF zs (envM l i) dim)=true∧inferF (envM l i) (topF zs (envM l i) dim)=(dim,0)∧(topF zs (envM l i) dim).depth≤10∧(topF zs (envM l i) dim).size≤60:=by
 obtain⟨g1,g2⟩:=topF_typed zs (envM_ok (l:=l) hi) h1 h4
 unfold validB at g2
 simp only [Bool.and_eq_true,decide_eq_true_eq]at g2
 exact⟨g1.1,g1.2,g2.1.1,g2.1.2⟩
theorem dfn_len{l:List (List Int)}{i:Nat}(hi:i≤5)(k:Nat):(codeF (dfnM l i).κ (dfnM l i).e k).length≤180:=by
 have hb:=dimM_bd l i
 obtain⟨g1,-,-,g4⟩:=good_made (l:=l) hi (l.getD i []) hb.1 hb.2
 have:=code_len (κ:=slK (namesM i)) _ g1 k
 show(codeF (slK (namesM i)) (topF (l.getD i []) (envM l i) (dimM l i)) k).length≤180
 omega
theorem setE_made(l:List (List Int)):∀(n i:Nat),i+n≤12→setE (setM i) ((List.range' i n).map (dfnM l))=setM (i+n)∧dimE (dmsM l i) ((List.range' i n).map (dfnM l))=dmsM l (i+n)
 |0,i,_=>⟨rfl,rfl⟩
 |n+1,i,h=>by
  rw [List.range'_succ,List.map_cons]
  have:=setE_made l n (i+1) (by omega)
  rw [←setM_next (by omega),←dmsM_next (by omega)]at this
  rw [show i+(n+1)=i+1+n by omega]
  exact this
theorem slots_nodup(l:List (List Int))(n:Nat):(((List.range' 0 n).map (dfnM l)).map Dfn.k).Nodup:=by
 rw [List.map_map]
 have:(Dfn.k ∘ dfnM l)=id:=rfl
 rw [this,List.map_id]
 exact List.nodup_range'
theorem made_approved(l:List (List Int))(g:List Int):∃d:Int,verA (madeC l g) (namesM (min l.length 5))=(d,0)∧d≤24∧(1≤d↔madeC l g≠[]):=by
 have hlen:(namesM (min l.length 5)).length=min l.length 5:=by unfold namesM;simp
 have z1:List.replicate 12 false=setM 0:=by decide
 have z2:List.replicate 12 (0:Int)=dmsM l 0:=rfl
 unfold madeC
 by_cases hg:g= []∨l= []
 ·rw [if_pos hg]
  have hl:=defsC_len ((List.range' 0 (min l.length 5)).map (dfnM l)) 0 (fun d hd i=>by
   obtain⟨k,hk,rfl⟩:=List.mem_map.1 hd
   have:=List.mem_range'.1 hk
   exact dfn_len (by omega) i)
  rw [List.length_map,List.length_range']at hl
  have hd:=defs_made l (min l.length 5) (min l.length 5) 0 (by omega) (by omega)
  rw [←z1,←z2]at hd
  obtain⟨d,h1,h2,h3,h4⟩:=made_plain (p:=(List.range' 0 (min l.length 5)).map (dfnM l)) (sl:=namesM (min l.length 5)) (by omega) (words_made (by omega)) (slots_nodup l _) (by rw [hlen];exact hd)
  refine⟨d,h1,h2,fun h e=>?_,fun h=>h3 fun e=>h (by rw [e];rfl)⟩
  by_cases hp:(List.range' 0 (min l.length 5)).map (dfnM l)= []
  ·have:=h4 hp;omega
  ·have:=defsC_pos hp 0
   rw [e]at this;simp at this
 ·rw [if_neg hg]
  have hl0:0<l.length:=List.length_pos_iff.2 fun e=>hg (.inr e)
  obtain⟨N,hN⟩:∃N,min l.length 5=N+1:=⟨min l.length 5-1,by omega⟩
  rw [hN]at hlen ⊢
  rw [Nat.add_sub_cancel]
  have hb:=dimM_bd l N
  obtain⟨f1,f2,f3,f4⟩:=good_made (l:=l) (i:=N) (by omega) g (dim:=1) (by omega) (by omega)
  have hd:=defs_made l (N+1) N 0 (by omega) (by omega)
  rw [←z1,←z2]at hd
  obtain⟨s1,s2⟩:=setE_made l N 0 (by omega)
  rw [←z1,Nat.zero_add]at s1
  rw [←z2,Nat.zero_add]at s2
  have hq:=defs_made l (N+1) 1 N (by omega) (by omega)
  have hl1:=defsC_len ((List.range' 0 N).map (dfnM l)) 0 (fun d hd i=>by
   obtain⟨k,hk,rfl⟩:=List.mem_map.1 hd
   have:=List.mem_range'.1 hk
   exact dfn_len (by omega) i)
  rw [List.length_map,List.length_range']at hl1
  have hl2:=fun i=>defsC_len [dfnM l N] i (fun d hd i=>by
   rw [List.mem_singleton]at hd
   rw [hd]
   exact dfn_len (by omega) i)
  have hlg:=fun i=>code_len (κ:=slK (namesM N)) _ f1 i
  obtain⟨d,h1,h2,h3⟩:=made_guard (p:=(List.range' 0 N).map (dfnM l)) (q:=[dfnM l N]) (g:=codeF (slK (namesM N)) (topF g (envM l N) 1)) (sl:=namesM (N+1))
   (by
    unfold guardC
    simp only [List.length_append,List.length_cons]
    have a:=hlg (defsC ((List.range' 0 N).map (dfnM l)) 0).length
    have b:=hl2 ((defsC ((List.range' 0 N).map (dfnM l)) 0).length+(codeF (slK (namesM N)) (topF g (envM l N) 1) (defsC ((List.range' 0 N).map (dfnM l)) 0).length).length+1)
    simp only [List.length_singleton]at b
    omega) (words_made (by omega))
   (by
    have:=slots_nodup l (N+1)
    rw [List.range'_concat,List.map_append]at this
    simpa using this) (by rw [hlen];exact hd)
   (fun i=>by
    have:=ver_code (κ:=slK (namesM N)) (set:=setM N) (dims:=dmsM l N) (env:=envM l N) _ f1 (by rw [f2]) (fun s hs hk=>((nm_made (l:=l) (mm:=12) (by omega) (by omega) f1 f2) s hs hk).2) i [] (by simp;omega)
    rw [f2]at this
    rw [s1,s2];exact this)
   (fun i=>code_head _ f1 i) (fun i n hn=>wf_code _ f1 (fun s hs hk=>by
    have:=((nm_made (l:=l) (mm:=N+1) (by omega) (by omega) f1 f2) s hs hk).1
    rw [hlen];exact this) i hn) (by simp) (by rw [hlen,s1,s2];exact hq)
  refine⟨d,h1,h3,fun _ e=>?_,fun _=>h2⟩
  have:=congrArg List.length e
  unfold guardC at this
  simp at this
def lastB(n k:Nat):Bool:=decide (k+1=n) || decide (k=4)
def codeS(ls:List (List Int))(g:List Int):Nat→List Ins
 |0=>[]
 |k+1=>
  let l:=codeS ls g k
  if lastB ls.length k&&decide (0<g.length)then
   let l1:=l++codeF (slK (namesM k)) (topF g (envM ls k) 1) l.length
   let l2:=l1++[⟨22,0,0,0⟩]
   let l3:=l2++codeF (slK (namesM k)) (dfnM ls k).e l2.length
   let l4:=l3++[⟨4,(k:Int),0,0⟩]
   setA l4 l1.length l4.length
  else l++codeF (slK (namesM k)) (dfnM ls k).e l.length++[⟨4,(k:Int),0,0⟩]
theorem defsC_snoc(a:List Dfn)(d:Dfn)(i:Nat):defsC (a++[d]) i=defsC a i++d.code (i+(defsC a i).length):=by
 induction a generalizing i with
 |nil=>simp [defsC]
 |cons x r ih=>
  rw [List.cons_append,defsC,defsC,ih,List.append_assoc,List.length_append,Nat.add_assoc]
theorem codeS_plain(ls:List (List Int))(g:List Int):∀k,(∀j,j<k→(lastB ls.length j&&decide (0<g.length))=false)→codeS ls g k=defsC ((List.range k).map (dfnM ls)) 0
 |0,_=>rfl
 |k+1,h=>by
  have ih:=codeS_plain ls g k (fun j hj=>h j (by omega))
  rw [codeS]
  simp only [h k (by omega)]
  rw [List.range_succ,List.map_append,List.map_singleton,defsC_snoc,←ih]
  simp only [Bool.false_eq_true,if_false,Nat.zero_add,List.append_assoc]
  rfl
theorem codeS_made(ls:List (List Int))(g:List Int):codeS ls g (min ls.length 5)=madeC ls g:=by
 unfold madeC
 by_cases h:g= []∨ls= []
 ·rw [if_pos h,←List.range_eq_range']
  refine codeS_plain ls g _ fun j hj=>?_
  rcases h with h|h
  ·subst h;simp
  ·subst h;simp at hj
 ·rw [if_neg h,←List.range_eq_range']
  have hg:0<g.length:=List.length_pos_iff.2 fun e=>h (.inl e)
  have hl:0<ls.length:=List.length_pos_iff.2 fun e=>h (.inr e)
  obtain⟨k,hk⟩:∃k,min ls.length 5=k+1:=⟨min ls.length 5-1,by omega⟩
  rw [hk,Nat.add_sub_cancel]
  have hlast:lastB ls.length k=true:=by unfold lastB;simp;omega
  have hP:=codeS_plain ls g k (fun j hj=>by
   have:lastB ls.length j=false:=by unfold lastB;simp;omega
   rw [this];rfl)
  rw [codeS,hP]
  generalize defsC ((List.range k).map (dfnM ls)) 0=P
  simp only [hlast,hg,decide_true,Bool.and_self,if_true]
  unfold guardC
  have h2:(P++codeF (slK (namesM k)) (topF g (envM ls k) 1) P.length++[(⟨22,0,0,0⟩:Ins)]).length=P.length+(codeF (slK (namesM k)) (topF g (envM ls k) 1) P.length).length+1:=by
   simp only [List.length_append,List.length_singleton]
  rw [h2]
  generalize codeF (slK (namesM k)) (topF g (envM ls k) 1) P.length=G
  have hd:∀i,defsC [dfnM ls k] i=codeF (slK (namesM k)) (dfnM ls k).e i++[⟨4,(k:Int),0,0⟩]:=fun i=>by
   show(dfnM ls k).code i++[]=_
   rw [List.append_nil];rfl
  rw [hd]
  generalize codeF (slK (namesM k)) (dfnM ls k).e (P.length+G.length+1)=D
  have key:=setA_mid (P++G) ⟨22,0,0,0⟩ (D++[⟨4,(k:Int),0,0⟩]) ((P++G++[(⟨22,0,0,0⟩:Ins)]++D++[(⟨4,(k:Int),0,0⟩:Ins)]).length:Nat)
  simp only [List.append_assoc,List.cons_append,List.nil_append]at key ⊢
  rw [key]
  congr 4
  simp only [List.length_append,List.length_cons,List.length_nil]
  omega
end Go.Proofs.YtaghhncnicbedaaGreatDoor
namespace Go.Proofs.YtaghhncnicbedaaGreatDoor
open Go.RowKit
def slV(sl:List ByteArray):List Value:=sl.map Value.string
def enV(env:List (ByteArray × Int)):List Value:=env.flatMap fun p=>[.string p.1,.int .i64 p.2]
structure Cod3(w:World)(base g:Nat)(cI cS vI vS vE:Value)(l:List Ins)(sl:List ByteArray)(env:List (ByteArray × Int))(W:World):Prop where
 gr:w.Grows W
 wg:w.heap.size≤g
 gb:g<base
 bW:base≤W.heap.size
 blk:∃ty,W.heap[g]? =some (.cells #[cI,cS] ty (0,0))
 row:LRow base W vI l
 slr:W.ownsRow base 9 1 vS sl.length (slV sl)
 enr:W.ownsRow base 96 2 vE env.length (enV env)
 dIS:∀b,vI.ownBlock=some b→vS.ownBlock≠some b
 dIE:∀b,vI.ownBlock=some b→vE.ownBlock≠some b
 dSE:∀b,vS.ownBlock=some b→vE.ownBlock≠some b
theorem keptNe{w w':World}{base size n:Nat}{e:TypeId}{v:Value}{xs:List Value}{row:Option Nat}(h:w.ownsRow base e size v n xs)(hg:w.grownBy w' row)(hne:∀b,row=some b→v.ownBlock≠some b):w'.ownsRow base e size v n xs:=
 h.kept hg (by
  cases e1:v.ownBlock with
  |none=>exact .inl rfl
  |some b=>exact .inr fun e2=>hne b e2.symm e1)
theorem grownOf{w w':World}(hg:w.Grows w')(row:Option Nat):w.grownBy w' row:=⟨hg.below.os,hg.below.tape,hg.below.output,hg.below.size,fun k hk _=>hg.below.block k hk⟩
theorem grownSet(w:World)(g j:Nat)(u:Value):w.grownBy (w.setCell ⟨g,j,none⟩ u) (some g):=by
 have hB:=Below.setCell (p:=(⟨g,j,none⟩:Addr)) (Below.refl g w) (Nat.le_refl g) u
 exact⟨hB.os,hB.tape,hB.output,hB.size,fun k _ hn=>Below.heap_setCell _ _ _ _ (fun e=>hn (by rw [e]))⟩
theorem apNew{v v1 u:Value}{W:World}(hat:v1.ownBlock=v.ownBlock∨∃b,v1.ownBlock=some b∧W.heap.size≤b)(hu:∀k,u.ownBlock=some k→k<W.heap.size)(h:∀b,v.ownBlock=some b→u.ownBlock≠some b):∀b,v1.ownBlock=some b→u.ownBlock≠some b:=by
 intro b hb e
 rcases hat with e1|⟨b',e1,hb'⟩
 ·exact h b (e1.symm.trans hb) e
 ·rw [e1]at hb;cases hb
  have:=hu _ e;omega
theorem apSym{v u:Value}(h:∀b,v.ownBlock=some b→u.ownBlock≠some b):∀b,u.ownBlock=some b→v.ownBlock≠some b:=fun b h1 h2=>h b h2 h1
section
variable {w W W' W1 : World} {base g : Nat} {cI cS vI vS vE v1 : Value} {l l1 : List Ins} {sl sl1 : List ByteArray} {env env1 : List (ByteArray × Int)}
theorem Cod3.grows(h:Cod3 w base g cI cS vI vS vE l sl env W)(hg:W.Grows W'):Cod3 w base g cI cS vI vS vE l sl env W':=by
 obtain⟨ty,hb⟩:=h.blk
 exact⟨h.gr.trans' hg,h.wg,h.gb,Nat.le_trans h.bW hg.below.size,⟨ty,(hg.below.block g (Array.getElem?_eq_some_iff.1 hb).1).trans hb⟩,h.row.grows hg,
  keptNe h.slr (grownOf hg none) (fun _ e=>by cases e),keptNe h.enr (grownOf hg none) (fun _ e=>by cases e),h.dIS,h.dIE,h.dSE⟩
theorem Cod3.lay(h:Cod3 w base g cI cS vI vS vE l sl env W)(hx:Ext W W1 vI v1)(hr:LRow base W1 v1 l1):Cod3 w base g cI cS v1 vS vE l1 sl env W1:=by
 obtain⟨ty,hb⟩:=h.blk
 have hlt:∀k,vI.ownBlock=some k→base≤k:=fun k e=>(h.row.lt k e).1
 exact⟨World.Grows.grown h.gr hx.g (fun k e=>by have:=hlt k e;have:=h.wg;have:=h.gb;omega),h.wg,h.gb,Nat.le_trans h.bW hx.g.size,
  ⟨ty,(hx.g.block g (Array.getElem?_eq_some_iff.1 hb).1 (fun e=>by have:=hlt g e.symm;have:=h.gb;omega)).trans hb⟩,hr,
  keptNe h.slr hx.g h.dIS,keptNe h.enr hx.g h.dIE,apNew hx.at_ (fun k e=>(h.slr.lt k e).2) h.dIS,apNew hx.at_ (fun k e=>(h.enr.lt k e).2) h.dIE,h.dSE⟩
theorem Cod3.slot(h:Cod3 w base g cI cS vI vS vE l sl env W)(hx:Ext W W1 vS v1)(hr:W1.ownsRow base 9 1 v1 sl1.length (slV sl1)):Cod3 w base g cI cS vI v1 vE l sl1 env W1:=by
 obtain⟨ty,hb⟩:=h.blk
 have hlt:∀k,vS.ownBlock=some k→base≤k:=fun k e=>(h.slr.lt k e).1
 exact⟨World.Grows.grown h.gr hx.g (fun k e=>by have:=hlt k e;have:=h.wg;have:=h.gb;omega),h.wg,h.gb,Nat.le_trans h.bW hx.g.size,
  ⟨ty,(hx.g.block g (Array.getElem?_eq_some_iff.1 hb).1 (fun e=>by have:=hlt g e.symm;have:=h.gb;omega)).trans hb⟩,keptNe h.row hx.g (apSym h.dIS),
  hr,keptNe h.enr hx.g h.dSE,apSym (apNew hx.at_ (fun k e=>(h.row.lt k e).2) (apSym h.dIS)),h.dIE,apNew hx.at_ (fun k e=>(h.enr.lt k e).2) h.dSE⟩
theorem Cod3.bind(h:Cod3 w base g cI cS vI vS vE l sl env W)(hx:Ext W W1 vE v1)(hr:W1.ownsRow base 96 2 v1 env1.length (enV env1)):Cod3 w base g cI cS vI vS v1 l sl env1 W1:=by
 obtain⟨ty,hb⟩:=h.blk
 have hlt:∀k,vE.ownBlock=some k→base≤k:=fun k e=>(h.enr.lt k e).1
 exact⟨World.Grows.grown h.gr hx.g (fun k e=>by have:=hlt k e;have:=h.wg;have:=h.gb;omega),h.wg,h.gb,Nat.le_trans h.bW hx.g.size,
  ⟨ty,(hx.g.block g (Array.getElem?_eq_some_iff.1 hb).1 (fun e=>by have:=hlt g e.symm;have:=h.gb;omega)).trans hb⟩,keptNe h.row hx.g (apSym h.dIE),
  keptNe h.slr hx.g (apSym h.dSE),hr,h.dIS,apSym (apNew hx.at_ (fun k e=>(h.row.lt k e).2) (apSym h.dIE)),apSym (apNew hx.at_ (fun k e=>(h.slr.lt k e).2) (apSym h.dSE))⟩
theorem Cod3.setc(h:Cod3 w base g cI cS vI vS vE l sl env W)(j:Nat)(u:Value){dI dS:Value}(hd:((#[cI,cS]:Array Value).setIfInBounds j u)=#[dI,dS]):Cod3 w base g dI dS vI vS vE l sl env (W.setCell ⟨g,j,none⟩ u):=by
 obtain⟨ty,hb⟩:=h.blk
 have hg:=grownSet W g j u
 refine⟨.of_below (h.gr.below.setCell h.wg u),h.wg,h.gb,Nat.le_trans h.bW hg.size,⟨ty, ?_⟩,keptNe h.row hg ?_,keptNe h.slr hg ?_,keptNe h.enr hg ?_,h.dIS,h.dIE,h.dSE⟩
 ·rw [←hd];exact Go.Joins.block_setCell hb u
 ·rintro b ⟨⟩ e;have:=(h.row.lt _ e).1;have:=h.gb;omega
 ·rintro b ⟨⟩ e;have:=(h.slr.lt _ e).1;have:=h.gb;omega
 ·rintro b ⟨⟩ e;have:=(h.enr.lt _ e).1;have:=h.gb;omega
theorem Cod3.setI(h:Cod3 w base g cI cS vI vS vE l sl env W)(u:Value):Cod3 w base g u cS vI vS vE l sl env (W.setCell ⟨g,0,none⟩ u):=h.setc 0 u rfl
theorem Cod3.setS(h:Cod3 w base g cI cS vI vS vE l sl env W)(u:Value):Cod3 w base g cI u vI vS vE l sl env (W.setCell ⟨g,1,none⟩ u):=h.setc 1 u rfl
theorem Cod3.ins(h:Cod3 w base g cI cS vI vS vE l sl env W)(x:Ins){gg n c H:Nat}(hn:n=l.length+1)(hg:W.Grows W')(hgr:W'.grownBy W1 vI.ownBlock)(ha:vI.ownBlock=some gg∨gg=H)(hH:W.heap.size≤H)
 (ho:W1.ownsRow base 77 4 (.slice (some ⟨gg,0,none⟩) n c) n (insV l++[.int .i64 x.op,.int .i64 x.a,.int .i64 x.n,.int .i64 x.d])):Cod3 w base g cI cS (.slice (some ⟨gg,0,none⟩) n c) vS vE (l++[x]) sl env W1:=by
 subst hn
 refine h.lay (Ext.app hg hgr ha hH) ?_
 rw [←insV_snoc]at ho
 unfold LRow
 rw [List.length_append]
 exact ho
theorem Cod3.nm(h:Cod3 w base g cI cS vI vS vE l sl env W)(s:ByteArray){gg n c H:Nat}(hn:n=sl.length+1)(hg:W.Grows W')(hgr:W'.grownBy W1 vS.ownBlock)(ha:vS.ownBlock=some gg∨gg=H)(hH:W.heap.size≤H)
 (ho:W1.ownsRow base 9 1 (.slice (some ⟨gg,0,none⟩) n c) n (slV sl++[.string s])):Cod3 w base g cI cS vI (.slice (some ⟨gg,0,none⟩) n c) vE l (sl++[s]) env W1:=by
 subst hn
 refine h.slot (Ext.app hg hgr ha hH) ?_
 rw [List.length_append,slV,List.map_append]
 exact ho
theorem Cod3.en(h:Cod3 w base g cI cS vI vS vE l sl env W)(s:ByteArray)(d:Int){gg n c H:Nat}(hn:n=env.length+1)(hg:W.Grows W')(hgr:W'.grownBy W1 vE.ownBlock)(ha:vE.ownBlock=some gg∨gg=H)(hH:W.heap.size≤H)
 (ho:W1.ownsRow base 96 2 (.slice (some ⟨gg,0,none⟩) n c) n (enV env++[.string s,.int .i64 d])):Cod3 w base g cI cS vI vS (.slice (some ⟨gg,0,none⟩) n c) l sl (env++[(s,d)]) W1:=by
 subst hn
 refine h.bind (Ext.app hg hgr ha hH) ?_
 rw [List.length_append,enV,List.flatMap_append]
 exact ho
theorem Cod3.patch{gg n c:Nat}(h:Cod3 w base g cI cS (.slice (some ⟨gg,0,none⟩) n c) vS vE l sl env W)(hn:n=l.length)(i:Nat)(hi:i<l.length)(z:Int):Cod3 w base g cI cS (.slice (some ⟨gg,0,none⟩) n c) vS vE (setA l i z) sl env (W.setCell ⟨gg,i*4+1,none⟩ (.int .i64 z)):=by
 subst hn
 have hr:=h.row
 unfold LRow at hr
 obtain⟨h1,h2⟩:=hr.stored (i*4+1) (.int .i64 z)
 refine h.lay ⟨h2,.inl rfl⟩ ?_
 unfold LRow
 rw [←insV_set l i z hi,setA_len]
 exact h1
theorem Cod3.cell{gg n c:Nat}(h:Cod3 w base g cI cS (.slice (some ⟨gg,0,none⟩) n c) vS vE l sl env W)(hn:n=l.length)(i:Nat)(hi:i<l.length):(∃u,W.cell? ⟨gg,i*4+1,none⟩=some u)∧W.frozen? ⟨gg,i*4+1,none⟩=false:=by
 subst hn
 have hr:=h.row
 exact fz40
theorem Cod3.c0(h:Cod3 w base g cI cS vI vS vE l sl env W):W.cell? ⟨g,0,none⟩=some cI:=by obtain⟨ty,hb⟩:=h.blk;exact cell_of_row W g 0 _ _ _ hb
theorem Cod3.c1(h:Cod3 w base g cI cS vI vS vE l sl env W):W.cell? ⟨g,1,none⟩=some cS:=by obtain⟨ty,hb⟩:=h.blk;exact cell_of_row W g 1 _ _ _ hb
theorem Cod3.f(h:Cod3 w base g cI cS vI vS vE l sl env W)(j:Nat):W.frozen? ⟨g,j,none⟩=false:=by obtain⟨ty,hb⟩:=h.blk;exact Go.Joins.unfrozen_of_block hb j
theorem Cod3.lt(h:Cod3 w base g cI cS vI vS vE l sl env W):g<W.heap.size:=Nat.lt_of_lt_of_le h.gb h.bW
theorem rowForm3{B size n:Nat}{T:TypeId}{v:Value}{xs:List Value}(h:W.ownsRow B T size v n xs):∃a c,v= .slice a n c∧n≤c∧(n=0∨∃b,a=some ⟨b,0,none⟩∧v.ownBlock=some b∧B≤b∧b<W.heap.size):=by
 obtain⟨-,⟨rfl,h0⟩|⟨g,cap,cur,rfl,hb,hg,hnc,-⟩⟩:=h
 ·exact⟨none,0,by rw [h0],by omega,.inl h0⟩
 ·exact⟨_,_,rfl,hnc,.inr ⟨g,rfl,rfl,hb,(Array.getElem?_eq_some_iff.1 hg).1⟩⟩
theorem slV_get(sl:List ByteArray)(i:Nat)(h:i<sl.length):(slV sl)[i]? =some (.string (sl.getD i ByteArray.empty)):=by
 unfold slV;rw [List.getElem?_map,List.getElem?_eq_getElem h,List.getD_eq_getElem?_getD,List.getElem?_eq_getElem h];rfl
theorem enV_get(env:List (ByteArray × Int))(i:Nat)(h:i<env.length):(enV env)[i*2]? =some (.string (env.getD i noBind).1)∧(enV env)[i*2+1]? =some (.int .i64 (env.getD i noBind).2):=by
 induction env generalizing i with
 |nil=>simp at h
 |cons p r ih=>
  have e:enV (p::r)= .string p.1:: .int .i64 p.2::enV r:=rfl
  rw [e]
  cases i with
  |zero=>exact⟨rfl,rfl⟩
  |succ i=>
   have:=ih i (by simpa using h)
   rw [show(i+1)*2=i*2+1+1 by omega]
   exact this
theorem Cod3.slIn{S:Nat→Prop}(h:Cod3 w base g cI cS vI vS vE l sl env W)(hl:sl.length≤1000)(hs:∀s∈sl,s.size≤maxLen)(hS:∀b,vS.ownBlock=some b→S b):SlIn S W vS sl:=by
 obtain⟨a,c,rfl,hc,h0⟩:=rowForm3 h.slr
 refine⟨hl,hs,a,c,hc,rfl,h0.imp id ?_⟩
 rintro⟨b,rfl,hb,-,hlt⟩
 refine⟨b,0,rfl,hS b hb,hlt,fun i hi=>?_⟩
 rw [Nat.zero_add]
 exact(h.slr.cellAt i (by omega)).trans (slV_get sl i hi)
theorem Cod3.slAt(h:Cod3 w base g cI cS vI vS vE l sl env W)(hl:sl.length≤1000)(hs:∀s∈sl,s.size≤maxLen):SlAt W vS sl:=by
 obtain⟨h1,h2,a,c,h3,h4,h5⟩:=h.slIn (S:=fun _=>True) hl hs (fun _ _=>trivial)
 refine⟨by omega,h2,a,c,h3,h4,h5.imp id ?_⟩
 rintro⟨b,off,ha,-,hb,hc⟩
 exact⟨b,off,ha,hb,hc⟩
theorem Cod3.envAt(h:Cod3 w base g cI cS vI vS vE l sl env W)(hl:env.length≤1000)(hs:∀x∈env,x.1.size≤140737488355328):EnvAt W W.heap.size vE env:=by
 obtain⟨a,c,rfl,hc,h0⟩:=rowForm3 h.enr
 refine⟨hl,hs,a,c,rfl,h0.imp id ?_⟩
 rintro⟨b,rfl,hb,-,hlt⟩
 refine⟨b,0,rfl,hlt,by omega,fun i hi=>?_⟩
 obtain⟨e1,e2⟩:=enV_get env i hi
 rw [Nat.zero_add]
 exact⟨(h.enr.cellAt (i*2) (by omega)).trans e1,(h.enr.cellAt (i*2+1) (by omega)).trans e2⟩
theorem Cod3.pre(h:Cod3 w base g cI cS vI vS vE l sl env W)(hg:W.Grows W1)(hl:sl.length≤1000)(hs:∀s∈sl,s.size≤maxLen) :
 LPre (fun b=>(W.heap.size≤b∧b<W1.heap.size)∨vS.ownBlock=some b) W1.heap.size base W1 vI vS l sl:=by
 have h1:=h.grows hg
 refine⟨h1.row, ?_,Nat.le_refl _, ?_,h1.bW,h1.slIn hl hs fun b hb=>.inr hb⟩
 ·rintro b (⟨-,hb⟩|hb)
  ·exact hb
  ·exact(h1.slr.lt b hb).2
 ·rintro b (⟨hb,-⟩|hb) e
  ·have:=(h.row.lt b e.symm).2;omega
  ·exact h.dIS b e.symm hb
theorem Cod3.layC(h:Cod3 w base g cI cS vI vS vE l sl env W)(hg:W.Grows W1)(hl:sl.length≤1000)(hs:∀s∈sl,s.size≤maxLen){e:Ex}{ve:Value}(hr:RepE (fun b=>W.heap.size≤b) W1 e ve)(hf:formedB e=true)
 (hn:∀s,mentB s e=true→inpK s=none→s∈sl) (hlen:l.length+(codeF (slK sl) e l.length).length≤1000000) :
 Calls Tryz.prog 39 #[vI,exV e ve,vS] W1 fun r w'=>∃a c,r= .returned (.slice a (l++codeF (slK sl) e l.length).length c)∧Cod3 w base g cI cS (.slice a (l++codeF (slK sl) e l.length).length c) vS vE (l++codeF (slK sl) e l.length) sl env w'∧W1.heap.size≤w'.heap.size:=
 (lay_code e hf hn _ _ base W1 vI vS ve l (h.pre hg hl hs) (hr.mono' fun b hb hlt=>.inl ⟨hb,hlt⟩) hlen).mono fun r w' ⟨v',he,hr,hx⟩=>by
  obtain⟨a,c,rfl⟩:=hr.form
  exact⟨a,c,he,(h.grows hg).lay hx hr,hx.g.size⟩
end
theorem Cod3.start{w W:World}{g:Nat}{ty:TypeId}(hg:w.Grows W)(hwg:w.heap.size≤g)(hb:W.heap[g]? =some (.cells #[.slice none 0 0,.slice none 0 0] ty (0,0))):Cod3 w W.heap.size g (.slice none 0 0) (.slice none 0 0) (.slice none 0 0) (.slice none 0 0) (.slice none 0 0) [] [] [] W:=
 ⟨hg,hwg,(Array.getElem?_eq_some_iff.1 hb).1,Nat.le_refl _,⟨ty,hb⟩,World.ownsRow_nil _ _ _ _,World.ownsRow_nil _ _ _ _,World.ownsRow_nil _ _ _ _,fun _ h=>(by cases h),fun _ h=>(by cases h),fun _ h=>(by cases h)⟩
theorem insV_get(l:List Ins)(i:Nat)(h:i<l.length):(insV l)[i*4]? =some (.int .i64 (l.getD i default).op)∧(insV l)[i*4+1]? =some (.int .i64 (l.getD i default).a)∧(insV l)[i*4+2]? =some (.int .i64 (l.getD i default).n)∧(insV l)[i*4+3]? =some (.int .i64 (l.getD i default).d):=by
 induction l generalizing i with
 |nil=>simp at h
 |cons x r ih=>
  have e:insV (x::r)= .int .i64 x.op:: .int .i64 x.a:: .int .i64 x.n:: .int .i64 x.d::insV r:=rfl
  rw [e]
  cases i with
  |zero=>exact⟨rfl,rfl,rfl,rfl⟩
  |succ i=>
   have:=ih i (by simpa using h)
   rw [show(i+1)*4=i*4+1+1+1+1 by omega]
   exact this
def InsOk(l:List Ins):Prop:=∀x∈l,I64 x.n∧I64 x.d
theorem LRow.insAt{base:Nat}{w:World}{v:Value}{l:List Ins}(h:LRow base w v l)(hl:l.length≤1000000)(hi:InsOk l):InsAt w v l:=by
 obtain⟨a,c,rfl,hc,h0⟩:=rowForm3 h
 refine⟨hl,a,c,rfl,h0.imp id ?_⟩
 rintro⟨b,rfl,-,-,hlt⟩
 refine⟨b,0,rfl,hlt,fun i hi2=>?_⟩
 obtain⟨e1,e2,e3,e4⟩:=insV_get l i hi2
 have hr:w.ownsRow base 77 4 (.slice (some ⟨b,0,none⟩) l.length c) l.length (insV l):=h
 rw [Nat.zero_add]
 refine⟨hi _ ?_,(hr.cellAt (i*4) (by omega)).trans e1,(hr.cellAt (i*4+1) (by omega)).trans e2,(hr.cellAt (i*4+2) (by omega)).trans e3,(hr.cellAt (i*4+3) (by omega)).trans e4⟩
 rw [List.getD_eq_getElem?_getD,List.getElem?_eq_getElem hi2];exact List.getElem_mem hi2
theorem slRow_at{base:Nat}{w:World}{v:Value}{sl:List ByteArray}(h:w.ownsRow base 9 1 v sl.length (slV sl))(hl:sl.length≤1000)(hs:∀s∈sl,s.size≤maxLen):SlAt w v sl:=by
 obtain⟨a,c,rfl,hc,h0⟩:=rowForm3 h
 refine⟨by omega,hs,a,c,hc,rfl,h0.imp id ?_⟩
 rintro⟨b,rfl,hb,-,hlt⟩
 refine⟨b,0,rfl,hlt,fun i hi=>?_⟩
 rw [Nat.zero_add]
 exact(h.cellAt i (by omega)).trans (slV_get sl i hi)
theorem i64_vf{n d:Int}(h:vfrac n d=true):I64 n∧I64 d:=by have:=vfrac_bd h;unfold I64;omega
theorem wf_i64{m n i:Nat}{x:Ins}(h:wfF m n i x=true):I64 x.n∧I64 x.d:=by
 by_cases h1:x.op=1
 ·unfold wfF at h
  rw [if_pos h1]at h
  simp only [Bool.and_eq_true]at h
  exact i64_vf h.2
 ·unfold wfF at h
  rw [if_neg h1]at h
  by_cases hz:¬(x.n=0∧x.d=0)
  ·rw [if_pos hz]at h;cases h
  ·have:x.n=0∧x.d=0:=by omega
   rw [this.1,this.2];unfold I64;omega
theorem ver_i64{l:List Ins}{sl:List ByteArray}{d:Int}(h:verA l sl=(d,0)):InsOk l:=by
 obtain⟨F,D,C⟩:=ver_cert h
 intro x hx
 obtain⟨i,hi,rfl⟩:=List.mem_iff_getElem.1 hx
 have:=wf_i64 (C.wf i hi)
 rw [List.getD_eq_getElem?_getD,List.getElem?_eq_getElem hi]at this
 exact this
theorem made_i64(l:List (List Int))(g:List Int):InsOk (madeC l g):=by
 obtain⟨d,h,-⟩:=made_approved l g
 exact ver_i64 h
theorem made_len(l:List (List Int))(g:List Int):(madeC l g).length≤4000:=by
 obtain⟨d,h,-⟩:=made_approved l g
 unfold verA at h
 by_cases hf:formF (madeC l g) (namesM (min l.length 5))=true
 ·unfold formF at hf
  simp only [Bool.and_eq_true,decide_eq_true_eq]at hf
  omega
 ·rw [if_neg hf]at h
  cases(Prod.mk.inj h).2
def CodeP(w:World)(l:List Ins)(sl:List ByteArray)(e:Ending)(w':World):Prop:=
 ∃a c vS base,e= .returned (.agg #[.slice a l.length c,vS])∧w.Grows w'∧w.heap.size≤base∧base≤w'.heap.size∧LRow base w' (.slice a l.length c) l∧w'.ownsRow base 9 1 vS sl.length (slV sl)∧∀b,(Value.slice a l.length c).ownBlock=some b→vS.ownBlock≠some b
theorem names_size(i:Nat):∀s∈namesM i,s.size≤maxLen:=by
 intro s hs
 obtain⟨j,-,rfl⟩:=List.mem_map.1 hs
 rw [letN_size];decide
theorem names_len(i:Nat):(namesM i).length=i:=by simp [namesM]
end Go.Proofs.YtaghhncnicbedaaGreatDoor
namespace Go.Proofs.YtaghhncnicbedaaGreatDoor
theorem made_in{l:List (List Int)}{i:Nat}(hi:i≤5){e:Ex}{d:Int}(hf:formedB e=true)(ht:inferF (envM l i) e=(d,0)):∀s,mentB s e=true→inpK s=none→s∈namesM i:=fun s hs hk=>by
 have h2:=infer_named e hf (by rw [ht]) hs
 obtain⟨j,hj,rfl,-⟩:=envM_last hi (inpK_none hk) h2
 exact List.mem_map.2 ⟨j,List.mem_range.2 hj,rfl⟩
theorem top_len{l:List (List Int)}{i:Nat}(hi:i≤5)(zs:List Int){dim:Int}(h1:1≤dim)(h4:dim≤4)(κ:ByteArray→Nat)(k:Nat):(codeF κ (topF zs (envM l i) dim) k).length≤180:=by
 obtain⟨g1,-,-,g4⟩:=good_made (l:=l) hi zs h1 h4
 have:=code_len (κ:=κ) _ g1 k
 omega
theorem codeS_len(ls:List (List Int))(g:List Int):∀k,k≤5→(codeS ls g k).length≤400*k
 |0,_=>Nat.le_refl _
 |k+1,h=>by
  have ih:=codeS_len ls g k (by omega)
  have hb:=dimM_bd ls k
  have t1:=fun n=>top_len (l:=ls) (i:=k) (by omega) g (dim:=1) (by omega) (by omega) (slK (namesM k)) n
  have t2:=fun n=>top_len (l:=ls) (i:=k) (by omega) (ls.getD k []) hb.1 hb.2 (slK (namesM k)) n
  have e:(dfnM ls k).e=topF (ls.getD k []) (envM ls k) (dimM ls k):=rfl
  rw [codeS,e]
  dsimp only
  split
  ·rw [setA_len]
   simp only [List.length_append,List.length_cons,List.length_nil]
   have a:=t1 (codeS ls g k).length
   have b:=t2 ((codeS ls g k).length+(codeF (slK (namesM k)) (topF g (envM ls k) 1) (codeS ls g k).length).length+(0+1))
   omega
  ·simp only [List.length_append,List.length_cons,List.length_nil]
   have b:=t2 (codeS ls g k).length
   omega
theorem namesM_snoc(k:Nat):namesM k++[letN k]=namesM (k+1):=by unfold namesM;rw [List.range_succ,List.map_append];rfl
theorem envM_snoc(ls:List (List Int))(k:Nat):envM ls k++[(letN k,dimM ls k)]=envM ls (k+1):=by unfold envM;rw [List.range_succ,List.map_append];rfl
theorem envM_len(ls:List (List Int))(k:Nat):(envM ls k).length=k:=by simp [envM]
theorem envM_size(ls:List (List Int))(k:Nat):∀x∈envM ls k,x.1.size≤140737488355328:=by
 intro x hx
 obtain⟨i,_,rfl⟩:=List.mem_map.1 hx
 show(letN i).size≤_
 rw [letN_size];omega
structure RdC(ls:List (List Int))(g:List Int)(k:Nat)(Eg Ed:Ex)(L0 L1 L2 L3 L4:List Ins):Prop where
 h1:L1=L0++codeF (slK (namesM k)) Eg L0.length
 h2:L2=L1++[⟨22,0,0,0⟩]
 h3:L3=L2++codeF (slK (namesM k)) Ed L2.length
 h4:L4=L3++[⟨4,(k:Int),0,0⟩]
 h5:setA L4 L1.length L4.length=codeS ls g (k+1)
 n:L0.length≤2000∧L0.length≤L1.length∧L1.length+1=L2.length∧L2.length≤L3.length∧L3.length+1=L4.length∧L4.length≤4000
theorem rd_guard(ls:List (List Int))(g:List Int)(k:Nat)(hk:k<5)(hl:lastB ls.length k=true)(hg:0<g.length):∃L1 L2 L3 L4,RdC ls g k (topF g (envM ls k) 1) (dfnM ls k).e (codeS ls g k) L1 L2 L3 L4:=by
 refine⟨_,_,_,_,rfl,rfl,rfl,rfl, ?_, ?_⟩
 ·rw [codeS]
  simp only [hl,hg,decide_true,Bool.and_self,if_true]
 ·have ih:=codeS_len ls g k (by omega)
  have hb:=dimM_bd ls k
  have t1:=top_len (l:=ls) (i:=k) (by omega) g (dim:=1) (by omega) (by omega) (slK (namesM k)) (codeS ls g k).length
  have t2:=fun n=>top_len (l:=ls) (i:=k) (by omega) (ls.getD k []) hb.1 hb.2 (slK (namesM k)) n
  have e:(dfnM ls k).e=topF (ls.getD k []) (envM ls k) (dimM ls k):=rfl
  rw [e]
  generalize codeS ls g k=L0 at *
  suffices h:∀L1 L2 L3 L4:List Ins,L1=L0++codeF (slK (namesM k)) (topF g (envM ls k) 1) L0.length→L2=L1++[⟨22,0,0,0⟩]→L3=L2++codeF (slK (namesM k)) (topF (ls.getD k []) (envM ls k) (dimM ls k)) L2.length→L4=L3++[⟨4,(k:Int),0,0⟩]→
   L0.length≤2000∧L0.length≤L1.length∧L1.length+1=L2.length∧L2.length≤L3.length∧L3.length+1=L4.length∧L4.length≤4000 from h _ _ _ _ rfl rfl rfl rfl
  intro L1 L2 L3 L4 h1 h2 h3 h4
  have n1:=congrArg List.length h1
  have n2:=congrArg List.length h2
  have n3:=congrArg List.length h3
  have n4:=congrArg List.length h4
  rw [List.length_append]at n1 n2 n3 n4
  rw [List.length_singleton]at n2 n4
  have b:=t2 L2.length
  omega
structure RdP(ls:List (List Int))(g:List Int)(k:Nat)(Ed:Ex)(L0 L3 L4:List Ins):Prop where
 h3:L3=L0++codeF (slK (namesM k)) Ed L0.length
 h4:L4=L3++[⟨4,(k:Int),0,0⟩]
 h5:L4=codeS ls g (k+1)
 n:L0.length≤2000∧L0.length≤L3.length∧L3.length+1=L4.length∧L4.length≤4000
theorem rd_plain(ls:List (List Int))(g:List Int)(k:Nat)(hk:k<5)(hl:(lastB ls.length k&&decide (0<g.length))=false):∃L3 L4,RdP ls g k (dfnM ls k).e (codeS ls g k) L3 L4:=by
 refine⟨_,_,rfl,rfl, ?_, ?_⟩
 ·rw [codeS]
  simp only [hl,Bool.false_eq_true,if_false]
 ·have ih:=codeS_len ls g k (by omega)
  have hb:=dimM_bd ls k
  have t2:=top_len (l:=ls) (i:=k) (by omega) (ls.getD k []) hb.1 hb.2 (slK (namesM k)) (codeS ls g k).length
  have e:(dfnM ls k).e=topF (ls.getD k []) (envM ls k) (dimM ls k):=rfl
  rw [e]
  generalize codeS ls g k=L0 at *
  suffices h:∀L3 L4:List Ins,L3=L0++codeF (slK (namesM k)) (topF (ls.getD k []) (envM ls k) (dimM ls k)) L0.length→L4=L3++[⟨4,(k:Int),0,0⟩]→
   L0.length≤2000∧L0.length≤L3.length∧L3.length+1=L4.length∧L4.length≤4000 from h _ _ rfl rfl
  intro L3 L4 h3 h4
  have n3:=congrArg List.length h3
  have n4:=congrArg List.length h4
  rw [List.length_append]at n3 n4
  rw [List.length_singleton]at n4
  omega
end Go.Proofs.YtaghhncnicbedaaGreatDoor
namespace Go.Proofs.YtaghhncnicbedaaGreatDoor
open Go.RowKit
theorem add2_no(an ad bn bd:Int)(p q:Bool)(w:World)(hpq:(p&&q)=false)
 (V1:Hid (∀w,Calls Tryz.prog 85 #[.agg #[.int .i64 an,.int .i64 ad]] w fun e w'=>e= .returned (.bool p)∧w.Grows w')) (V2:Hid (∀w,Calls Tryz.prog 85 #[.agg #[.int .i64 bn,.int .i64 bd]] w fun e w'=>e= .returned (.bool q)∧w.Grows w'))
 :Calls Tryz.prog 106 (#[.agg #[.int .i64 an,.int .i64 ad],.agg #[.int .i64 bn,.int .i64 bd]]) w fun e w'=>e= .returned (frV (0,0,1))∧w.Grows w':=by
 cases p<;>cases q
 all_goals first
  |(exfalso;simp at hpq;done)
  |clear hpq
 all_goals
  go_enter Tryz.func106,Tryz.ntmps106
  go_wp2_with (first|(go_at_call 85;(with_reducible refine(V1.out _).mono ?_);rintro e w' ⟨rfl,bs,dr,rfl⟩)|(go_at_call 85;(with_reducible refine(V2.out _).mono ?_);rintro e w' ⟨rfl,bs2,dr2,rfl⟩))
  go_returns
  exact⟨rfl,.of_below belB⟩
end Go.Proofs.YtaghhncnicbedaaGreatDoor
namespace Go.Proofs.YtaghhncnicbedaaGreatDoor
open Go.RowKit Go.ChangeShapes Go.WideShapes Go.Deep
section
variable {H : Type} {enc : TypeId × Value → H} {P : Program} {w : World}
theorem RowsAt.of_trod{t e q:TypeId}{fuel:Nat}{v:Value}{x:DataW H × List MemPlace}(ht:P.underlying t=some (.slice e))(he:P.underlying e=some (.slice q))(hq:P.underlying q=some (.int .i64))(ce:P.cellsOf e=1)(cq:P.cellsOf q=1)(be:P.bytesOf e=24)(bq:P.bytesOf q=8)
 (h:DataW.trod enc P w 0 (fun _=>true) true fuel t [v]=some x) (hf:fits P t x.1):∃zss,RowsAt w v zss:=by
 rcases open_int_rows ht he hq ce cq h with ⟨hcs,_⟩|⟨a,len,cap,A,L,C,Z,hcs,_,hl,hm,hx,hr⟩
 ·simp at hcs
  subst hcs
  exact⟨[],by simp,none,0,rfl,.inl rfl⟩
 ·simp at hcs
  subst hcs
  have h8:len≤140737488355328:=by
   have h9:=hf ((len+(cap-len))*24) (by rw [hx];simp [DataW.weights,ht,be])
   omega
  have hrow:∀r,r<len→IntsAt w (.slice (A r) (L r) (C r)) ((Z r).take (L r)):=by
   intro r hrl
   obtain⟨h1,h2,h3,h4,h5,h6,h7⟩:=hr r (by omega)
   refine IntsAt.of_cells h2 h4 h5 ?_ (fun e=>by have:=h6 e;omega) (fun x' hx' i hi=>(h7 x' hx').2 i hi)
   cases hA:A r with
   |none=>have:=h6 hA;omega
   |some y=>
    have h9:=hf ((L r+(C r-L r))*8) (by
     rw [hx]
     simp only [DataW.weights,ht,List.mem_cons,List.mem_append]
     right;left
     have key:∀(l:List Nat),r∈l→(L r+(C r-L r))*8∈DataW.weightsAll P e (l.map fun r=>(intRow (H:=H) .i64 (A r) (L r) (Z r))):=by
      intro l
      induction l with
      |nil=>intro h;cases h
      |cons y' l ih=>
       intro h
       simp only [List.map_cons,DataW.weightsAll,List.mem_append]
       rcases List.mem_cons.1 h with rfl|h
       ·left;simp [intRow,hA,DataW.weights,he,lits,bq,h4,Nat.min_eq_left h2]
       ·exact .inr (ih h)
     exact key _ (List.mem_range.2 hrl))
    omega
  refine⟨(List.range len).map fun r=>(Z r).take (L r),by simpa using h8,some a,cap,by simp, ?_⟩
  by_cases h0:len=0
  ·left;simp [h0]
  ·right
   obtain⟨b,off,spot⟩:=a
   have h1:=(hr 0 (by omega)).1
   have hspot:spot=none:=by simpa [Addr.add]using World.cell?_spot h1
   subst hspot
   have h2:∀i,i<cap→w.cell? ⟨b,off+i,none⟩=some (.slice (A i) (L i) (C i)):=fun i hi=>by
    rw [←add_at'];exact(hr i hi).1
   refine⟨b,off,rfl,cell_lt (h2 0 (by omega)),fun i hi=>?_⟩
   have hi':i<len:=by simpa using hi
   refine⟨_,h2 i (by omega), ?_⟩
   have:((List.range len).map fun r=>(Z r).take (L r)).getD i []=(Z i).take (L i):=by simp [List.getD_eq_getElem?_getD,hi']
   rw [this]
   exact hrow i hi'
end
theorem array10{α:Type}{cs:Array α}(h:cs.size=10):∃c0 c1 c2 c3 c4 c5 c6 c7 c8 c9,cs=#[c0,c1,c2,c3,c4,c5,c6,c7,c8,c9]:=by
 obtain⟨l⟩:=cs
 match l,h with
 | [c0,c1,c2,c3,c4,c5,c6,c7,c8,c9],_=>exact⟨c0,c1,c2,c3,c4,c5,c6,c7,c8,c9,rfl⟩
theorem c25:(Tryz.prog).cellsOf 25=10:=by kernel_rfl
theorem c23:(Tryz.prog).cellsOf 23=1:=by kernel_rfl
theorem RawAt.of_trod{H:Type}{enc:TypeId × Value→H}{w:World}{r:Reach}{b0:Nat}{v:Value}{d:DataW H}{p:List MemPlace}(hv:Value.okWide Tryz.prog w r b0 25 v)
 (h:DataW.Trod enc Tryz.prog w 0 (fun _=>true) true 25 v d p) (hf:fits Tryz.prog 25 d) :
 ∃R cs,v= .agg cs∧RawAt w cs.toList R:=by
 have ht:=Tryz.underlying25
 obtain⟨cs,rfl,hsz⟩:=okWide_struct ht hv
 obtain⟨c0,c1,c2,c3',c4,c5,c6,c7,c8,c9,rfl⟩:=array10 (hsz.trans c25)
 obtain⟨fuel,h⟩:=h
 obtain⟨xs,n,_,hx,_,hlen,hF⟩:=DataW.trod_struct ht h
 simp only [Prod.mk.injEq]at hx
 obtain⟨rfl,-⟩:=hx
 have k0:=hF 0 _ rfl
 have k1:=hF 1 _ rfl
 have k2:=hF 2 _ rfl
 have k3:=hF 3 _ rfl
 have k4:=hF 4 _ rfl
 have k5:=hF 5 _ rfl
 have k6:=hF 6 _ rfl
 have k7:=hF 7 _ rfl
 have k8:=hF 8 _ rfl
 have k9:=hF 9 _ rfl
 simp only [Value.cells,List.drop_zero,List.drop_succ_cons,List.take_succ_cons,List.take_zero]at k0 k1 k2 k3 k4 k5 k6 k7 k8 k9
 match xs,hlen with
 | [y0,y1,y2,y3,y4,y5,y6,y7,y8,y9],_=>
   obtain⟨n0,rfl,w0⟩:=int_of_trod k0
   obtain⟨n1,rfl,w1⟩:=int_of_trod k1
   obtain⟨n2,rfl,w2⟩:=int_of_trod k2
   obtain⟨n9,rfl,w9⟩:=int_of_trod k9
   obtain⟨z3,w3⟩:=IntsAt.of_trod Tryz.underlying22 Tryz.underlying3 c3 b3 k3 (fits_part ht hf (i:=3) rfl rfl)
   obtain⟨z4,w4⟩:=IntsAt.of_trod Tryz.underlying22 Tryz.underlying3 c3 b3 k4 (fits_part ht hf (i:=4) rfl rfl)
   obtain⟨z5,w5⟩:=RowsAt.of_trod Tryz.underlying23 Tryz.underlying22 Tryz.underlying3 c22 c3 b22 b3 k5 (fits_part ht hf (i:=5) rfl rfl)
   obtain⟨z6,w6⟩:=RowsAt.of_trod Tryz.underlying23 Tryz.underlying22 Tryz.underlying3 c22 c3 b22 b3 k6 (fits_part ht hf (i:=6) rfl rfl)
   obtain⟨z7,w7⟩:=RowsAt.of_trod Tryz.underlying23 Tryz.underlying22 Tryz.underlying3 c22 c3 b22 b3 k7 (fits_part ht hf (i:=7) rfl rfl)
   obtain⟨z8,w8⟩:=RowsAt.of_trod Tryz.underlying23 Tryz.underlying22 Tryz.underlying3 c22 c3 b22 b3 k8 (fits_part ht hf (i:=8) rfl rfl)
   exact⟨⟨n0,n1,n2,z3,z4,z5,z6,z7,z8,n9⟩,_,rfl,w0,w1,w2,w9,c3',c4,c5,c6,c7,c8,rfl,w3,w4,w5,w6,w7,w8⟩
end Go.Proofs.YtaghhncnicbedaaGreatDoor
