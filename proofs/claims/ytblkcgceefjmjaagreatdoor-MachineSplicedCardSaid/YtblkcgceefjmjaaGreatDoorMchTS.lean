/- What a run of approved code gives: steps with valid values, each slot at most once, or error 2 or 3. No program in sight. -/
import Derived.Test.YtblkcgceefjmjaaGreatDoorSTyR
set_option linter.all false
set_option maxHeartbeats 16000000
set_option maxRecDepth 1000000
namespace Go.Proofs.YtblkcgceefjmjaaGreatDoor
theorem sets_once{l:List Ins}(h:(setsF l).Nodup){i j:Nat}(hji:j<i)(hi:i<l.length)(oi:(l.getD i default).op=4)(oj:(l.getD j default).op=4):(l.getD j default).a.toNat≠(l.getD i default).a.toNat:=by
 unfold setsF at h
 have h2:=List.pairwise_map.1 h
 have h3:=List.pairwise_filter.1 h2
 have h4:=List.pairwise_iff_getElem.1 h3 j i (by omega) hi hji
 have ei:l.getD i default=l[i]:=by rw [List.getD_eq_getElem?_getD,List.getElem?_eq_getElem hi];rfl
 have ej:l.getD j default=l[j]'(by omega):=by rw [List.getD_eq_getElem?_getD,List.getElem?_eq_getElem (by omega)];rfl
 rw [ei]at oi ⊢
 rw [ej]at oj ⊢
 exact h4 (by simpa using oj) (by simpa using oi)
theorem nodup_at{sl:List ByteArray}(h:sl.Nodup){a b:Nat}(ha:a<sl.length)(hb:b<sl.length)(e:sl.getD a ByteArray.empty=sl.getD b ByteArray.empty):a=b:=by
 rw [List.getD_eq_getElem?_getD,List.getD_eq_getElem?_getD,List.getElem?_eq_getElem ha,List.getElem?_eq_getElem hb]at e
 replace e:sl[a]=sl[b]:=e
 have hp:=List.pairwise_iff_getElem.1 h
 rcases Nat.lt_trichotomy a b with c|c|c
 ·exact absurd e (hp a b ha hb c)
 ·exact c
 ·exact absurd e.symm (hp b a hb ha c)
structure StpsOk(l:List Ins)(sl:List ByteArray)(i:Nat)(st:List (ByteArray × Val)):Prop where
 ok:∀p∈st,p.2.ok=true
 nm:∀p∈st,∃j,j<i∧(l.getD j default).op=4∧p.1=sl.getD (l.getD j default).a.toNat ByteArray.empty
 one:(st.map Prod.fst).Nodup
theorem StpsOk.nil{l:List Ins}{sl:List ByteArray}{i:Nat}:StpsOk l sl i []:=⟨fun _ h=>(by cases h),fun _ h=>(by cases h),List.nodup_nil⟩
theorem StpsOk.later{l:List Ins}{sl:List ByteArray}{i j:Nat}{st:List (ByteArray × Val)}(h:StpsOk l sl i st)(hij:i≤j):StpsOk l sl j st:=⟨h.ok,fun p hp=>by
 obtain⟨k,h1,h2⟩:=h.nm p hp
 exact⟨k,by omega,h2⟩,h.one⟩
def RunEnd(l:List Ins)(sl:List ByteArray)(r:List (ByteArray × Val) × Int):Prop:=(r.2=0∧∃n,StpsOk l sl n r.1)∨(r.1= []∧(r.2=2∨r.2=3))
section
variable {l : List Ins} {sl : List ByteArray} {v : Vw} {F : List (Option (List Int × List Bool))} {D : List Int}
theorem run_safe(C:Cert l sl.length F D)(hv:v.ok=true)(hs:(setsF l).Nodup)(hn:sl.Nodup):∀(f i:Nat) (stk slots:List Val) (st:List (ByteArray × Val)),At F D i stk slots→sl.length≤slots.length→StpsOk l sl i st→RunEnd l sl (runF l sl v f i stk slots st):=by
 intro f
 induction f with
 |zero=>intro i stk slots st _ _ h;exact .inl ⟨rfl,i,h⟩
 |succ f ih=>
  intro i stk slots st hA hsl hst
  rw [runF]
  by_cases hi:l.length≤i
  ·rw [if_pos hi];exact .inl ⟨rfl,i,hst⟩
  rw [if_neg hi]
  replace hi:i<l.length:=by omega
  have hx:=C.wf i hi
  by_cases o1:(l.getD i default).op=1
  ·rw [if_pos o1]
   exact ih _ _ _ _ (step1 C hi hA o1) hsl (hst.later (by omega))
  rw [if_neg o1]
  obtain⟨-,-,w34,w5,w21,-⟩:=wf_rest hx o1
  by_cases o2:(l.getD i default).op=2
  ·rw [if_pos o2]
   exact ih _ _ _ _ (step2 hv C hi hA o2) hsl (hst.later (by omega))
  rw [if_neg o2]
  by_cases o3:(l.getD i default).op=3
  ·rw [if_pos o3]
   exact ih _ _ _ _ (step3 C hi hA o3) hsl (hst.later (by omega))
  rw [if_neg o3]
  by_cases o4:(l.getD i default).op=4
  ·rw [if_pos o4]
   obtain⟨h1,h2,h3⟩:=step4 C hi hA hsl o4
   have ha:=w34 (.inr o4)
   refine ih _ _ _ _ h3 (by rw [List.length_set];exact hsl) ⟨fun p hp=>?_,fun p hp=>?_, ?_⟩
   ·rcases List.mem_append.1 hp with hp|hp
    ·exact hst.ok p hp
    ·rw [List.mem_singleton]at hp
     subst hp;exact h2
   ·rcases List.mem_append.1 hp with hp|hp
    ·obtain⟨j,k1,k2⟩:=hst.nm p hp
     exact⟨j,by omega,k2⟩
    ·rw [List.mem_singleton]at hp
     subst hp;exact⟨i,by omega,o4,rfl⟩
   ·rw [List.map_append,List.nodup_append]
    refine⟨hst.one,by simp,fun a ha' b hb=>?_⟩
    obtain⟨p,hp,rfl⟩:=List.mem_map.1 ha'
    rw [List.map_cons,List.map_nil,List.mem_singleton]at hb
    subst hb
    obtain⟨j,k1,k2,k3⟩:=hst.nm p hp
    rw [k3]
    intro e
    have hj:=(wf_rest (C.wf j (by omega)) (by omega)).2.2.1 (.inr k2)
    exact sets_once hs k1 hi o4 k2 (nodup_at hn (by omega) (by omega) e)
  rw [if_neg o4]
  by_cases o5:(l.getD i default).op=5
  ·rw [if_pos o5]
   have hb:=best_ok (l:=v.years) (w5 o5).1 (w5 o5).2 (Vw.ok_bd hv).2.2.2.2
   by_cases e:(bestF v.years (l.getD i default).a).2.2=0
   ·rw [if_pos e]
    rcases hb with hb|hb
    ·exact ih _ _ _ _ (step5 C hi hA o5 hb.2) hsl (hst.later (by omega))
    ·have:=hb.2.2;omega
   ·rw [if_neg e]
    rcases hb with hb|hb
    ·exact absurd hb.1 e
    ·exact .inr ⟨rfl,hb.2.2⟩
  rw [if_neg o5]
  by_cases o23:(l.getD i default).op=23∨(l.getD i default).op=24
  ·rw [if_pos o23]
   exact ih _ _ _ _ (step23 C hi hA o23 _) hsl (hst.later (by omega))
  rw [if_neg o23]
  by_cases o21:(l.getD i default).op=21
  ·rw [if_pos o21]
   exact ih _ _ _ _ (step21 C hi hA o21) hsl (hst.later (by have:=w21 (.inl o21);omega))
  rw [if_neg o21]
  by_cases o22:(l.getD i default).op=22
  ·rw [if_pos o22]
   obtain⟨h1,h2,h3⟩:=step22 C hi hA o22
   split
   ·exact ih _ _ _ _ h2 hsl (hst.later (by omega))
   ·exact ih _ _ _ _ h3 hsl (hst.later (by have:=w21 (.inr o22);omega))
  rw [if_neg o22]
  obtain⟨h1,h2,h3,h4⟩:=stepO C hi hA (by omega)
  by_cases e:(opV (opF (l.getD i default).op) (stk.drop (stk.length-ariF (opF (l.getD i default).op)))).2=0
  ·rw [if_pos e]
   obtain⟨g1,g2⟩:=h2.good e
   exact ih _ _ _ _ (h4 _ g1 g2) hsl (hst.later (by omega))
  ·rw [if_neg e]
   exact .inr ⟨rfl,(h2.bad e).2⟩
end
theorem ver_safe{l:List Ins}{sl:List ByteArray}{d:Int}(h:verA l sl=(d,0)){v:Vw}(hv:v.ok=true){n:Nat}(hn:sl.length≤n)(f:Nat):RunEnd l sl (runF l sl v f 0 [] (List.replicate n .zero) []):=by
 obtain⟨F,D,C⟩:=ver_cert h
 unfold verA at h
 by_cases hf:formF l sl=true
 ·unfold formF wordsF at hf
  simp only [Bool.and_eq_true,decide_eq_true_eq]at hf
  obtain⟨s,h1,h2,h3⟩:=C.zero
  exact run_safe C hv hf.2.2 hf.2.1.2 f 0 [] _ [] ⟨s,h1,by rw [h2];rfl,fun _ h=>(by cases h),fun k hk=>by rw [h3 k]at hk;cases hk⟩ (by rw [List.length_replicate];exact hn) .nil
 ·rw [if_neg hf]at h
  cases(Prod.mk.inj h).2
end Go.Proofs.YtblkcgceefjmjaaGreatDoor
