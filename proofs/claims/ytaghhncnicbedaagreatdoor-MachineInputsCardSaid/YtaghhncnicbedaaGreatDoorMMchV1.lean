import Derived.Test.YtaghhncnicbedaaGreatDoorMMchL
import Derived.Test.YtaghhncnicbedaaGreatDoorMMchN
import Derived.Test.YtaghhncnicbedaaGreatDoorMMchF
import Derived.Test.YtaghhncnicbedaaGreatDoorMK
set_option linter.all false
set_option maxHeartbeats 16000000
set_option maxRecDepth 1000000
namespace Go.Proofs.YtaghhncnicbedaaGreatDoor
open Go.RowKit
structure VInv(n NS ND:Nat)(W0:World)(i:Nat)(S:List (Option (List Int × List Bool)))(R:Nat→Value)(dims:List Int)(w:World):Prop where
 lt:NS<ND
 sz:ND<w.heap.size
 lo:Below NS W0 w
 len:S.length=n+1
 st:∀j,j≤n→StM w NS (j*14) (R j) (S.getD j none)
 sf:∀o,w.frozen? ⟨NS,o,none⟩=false
 row:∀j t,i≤j→S.getD j none=some t→w.ownsRow (ND+1) 3 1 (R j) t.1.length (t.1.map (Value.int .i64))∧t.1.length≤24∧RngS t dims
 dis:∀j k t u g,i≤j→j<k→S.getD j none=some t→S.getD k none=some u→(R j).ownBlock=some g→(R k).ownBlock≠some g
 dm:CellsAt w ND 0 (dims.map (Value.int .i64))
 df:∀o,w.frozen? ⟨ND,o,none⟩=false
 rd:RngD dims
section
variable {n NS ND i NB : Nat} {W0 w w1 w2 w' : World} {S : List (Option (List Int × List Bool))} {R : Nat → Value} {dims dims' : List Int} {s s' : List Int × List Bool} {v' : Value}
theorem VInv.grows(h:VInv n NS ND W0 i S R dims w)(hg:w.Grows w'):VInv n NS ND W0 i S R dims w':=by
 have hs:=hg.below.size
 have hsz:=h.sz
 have hlt:=h.lt
 have e1:=hg.below.block NS (by omega)
 have e2:=hg.below.block ND h.sz
 refine⟨h.lt,by omega,h.lo.trans (hg.below.mono (by omega)),h.len,fun j hj=>(h.st j hj).same fun o=>World.cell?_of_block (a:=⟨NS,o,none⟩) e1,fun o=>(World.frozen?_of_block (a:=⟨NS,o,none⟩) e1).trans (h.sf o),fun j t hj ht=>?_,h.dis,h.dm.same fun o=>World.cell?_of_block (a:=⟨ND,o,none⟩) e2,fun o=>(World.frozen?_of_block (a:=⟨ND,o,none⟩) e2).trans (h.df o),h.rd⟩
 obtain⟨a,b,c⟩:=h.row j t hj ht
 exact⟨Mods.row (P:=fun _=>False) (.grows hg) a fun _ _ e=>e,b,c⟩
theorem VInv.now(h:VInv n NS ND W0 i S R dims w)(hs:S.getD i none=some s)(hg:w.Grows w1)(hNB:w.heap.size≤NB)(hNB1:NB<w1.heap.size)(hst:StC w1 NB 0 true (R i) s.2)(hfr:∀o,w1.frozen? ⟨NB,o,none⟩=false):AppI NB ND (ND+1) (R i) s dims w1:=by
 obtain⟨hr,hl,hq⟩:=h.row i s (Nat.le_refl _) hs
 have h1:=h.grows hg
 have hsz:=h.sz
 have hz:=hg.below.size
 refine⟨hNB1,h1.sz,by omega,fun e=>?_,fun e=>?_,by omega,hst,hfr,h1.dm,h1.df,(h1.row i s (Nat.le_refl _) hs).1,hl⟩
 ·have:=(hr.lt _ e).2;omega
 ·have:=(hr.lt _ e).1;omega
theorem VInv.applied(h:VInv n NS ND W0 i S R dims w)(hs:S.getD i none=some s)(hg:w.Grows w1)(hNB:w.heap.size≤NB)(hr:AppR NB ND (ND+1) (R i) v' s' dims' w1 w2)(hd:RngD dims')(hm:∀k,1≤dims.getD k 0→1≤dims'.getD k 0):VInv n NS ND W0 (i+1) S R dims' w2:=by
 have h1:=h.grows hg
 have hsz:=h.sz
 have hlt:=h.lt
 have hz1:=hg.below.size
 have hz2:=hr.mods.size
 obtain⟨ho,-,-⟩:=h.row i s (Nat.le_refl _) hs
 have hR:∀g,(R i).ownBlock=some g→ND+1≤g:=fun g e=>(ho.lt g e).1
 have e1:w2.heap[NS]? =w1.heap[NS]?:=hr.mods.block NS (by omega) fun q=>by
  rcases q with q|q|q
  ·omega
  ·omega
  ·have:=hR _ q;omega
 refine⟨h.lt,by omega,h1.lo.trans ⟨hr.mods.os,hr.mods.tape,hr.mods.output,hr.mods.size,fun k hk=>hr.mods.block k (by omega) fun q=>?_⟩,h.len,fun j hj=>(h1.st j hj).same fun o=>World.cell?_of_block (a:=⟨NS,o,none⟩) e1,fun o=>(World.frozen?_of_block (a:=⟨NS,o,none⟩) e1).trans (h1.sf o),fun j t hj ht=>?_,fun j k t u g hj=>h.dis j k t u g (by omega),hr.dm,fun o=>(hr.dfr o).trans (h1.df o),hd⟩
 ·rcases q with q|q|q
  ·omega
  ·omega
  ·have:=hR _ q;omega
 ·obtain⟨a,b,c⟩:=h1.row j t (by omega) ht
  refine⟨hr.mods.row a fun g hgb q=>?_,b,⟨c.stk,fun k hk=>hm k (c.set k hk),c.len⟩⟩
  rcases q with q|q|q
  ·have:=((h.row j t (by omega) ht).1.lt g hgb).2;omega
  ·have:=(a.lt g hgb).1;omega
  ·exact h.dis i j s t g (Nat.le_refl _) (by omega) hs ht q hgb
theorem getD_set_eq{α:Type}(l:List (Option α))(k j:Nat)(a:Option α):(l.set k a).getD j none=if k=j∧j<l.length then a else l.getD j none:=getD_setI l k j a none
theorem VInv.merged(h:VInv n NS ND W0 i S R dims w){k:Nat}{e:Ending}(hk:i≤k)(hkn:k≤n)(hs:RngS s dims)(hs24:s.1.length≤24)(hm:MrgA NS (k*14) (ND+1) (R k) (S.getD k none) s w e w') :
 ∃b,e= .returned (.bool b)∧Mods (fun b=>b=NS) w w'∧((b=false∧putA S k s=none)∨(b=true∧∃S' R',putA S k s=some S'∧VInv n NS ND W0 i S' R' dims w')):=by
 obtain⟨b,he,hmod,hout,hfr,hc⟩:=hm
 have hsz:=h.sz
 have hlt:=h.lt
 have hz:=hmod.size
 refine⟨b,he,hmod, ?_⟩
 rw [putA_mrg]
 cases hq:mrgF (S.getD k none) s with
 |none=>rw [hq]at hc;exact .inl ⟨hc,rfl⟩
 |some s2=>
  rw [hq]at hc
  obtain⟨hb,v2,hst,hrow,hown⟩:=hc
  have hkl:k<S.length:=by rw [h.len];omega
  have hg:∀j,(S.set k (some s2)).getD j none=if k=j then some s2 else S.getD j none:=fun j=>by
   rw [getD_set_eq]
   by_cases c:k=j
   ·subst c;rw [if_pos ⟨rfl,hkl⟩,if_pos rfl]
   ·rw [if_neg (fun q=>c q.1),if_neg c]
  have e2:w'.heap[ND]? =w.heap[ND]?:=hmod.block ND h.sz (by omega)
  have hr2:RngS s2 dims∧s2.1.length≤24:=by
   unfold mrgF at hq
   cases ht:S.getD k none with
   |none=>rw [ht]at hq;obtain rfl:=Option.some.inj hq;exact⟨hs,hs24⟩
   |some t=>
    rw [ht]at hq
    obtain⟨-,tl,tr⟩:=h.row k t hk ht
    by_cases c:t.1=s.1
    ·simp only [if_pos c]at hq
     obtain rfl:=Option.some.inj hq
     exact⟨⟨tr.stk,fun j hj=>tr.set j (zip_true hj).1,by rw [List.length_zipWith,tr.len,hs.len];rfl⟩,tl⟩
    ·simp only [if_neg c]at hq;cases hq
  have hnew:∀j t,i≤j→j≠k→S.getD j none=some t→∀g,(R j).ownBlock=some g→v2.ownBlock≠some g:=fun j t hj hjk ht g hgb hv=>by
   have hgl:=((h.row j t hj ht).1.lt g hgb).2
   rcases hown with ⟨hne,rfl⟩|⟨-,hf⟩
   ·cases hu:S.getD k none with
    |none=>exact hne hu
    |some u=>
     rcases Nat.lt_or_gt_of_ne hjk with c|c
     ·exact h.dis j k t u g hj c ht hu hgb hv
     ·exact h.dis k j u t g hk c hu ht hv hgb
   ·have:=hf g hv;omega
  refine .inr ⟨hb,S.set k (some s2),fun j=>if j=k then v2 else R j,rfl,⟨h.lt,by omega,h.lo.trans ⟨hmod.os,hmod.tape,hmod.output,hmod.size,fun j hj=>hmod.block j (by omega) (by omega)⟩,by rw [List.length_set];exact h.len,fun j hj=>?_,fun o=>(hfr o).trans (h.sf o),fun j t hj ht=>?_,fun j k2 t u g hj hjk ht hu hgb hv=>?_,h.dm.same fun o=>World.cell?_of_block (a:=⟨ND,o,none⟩) e2,fun o=>(World.frozen?_of_block (a:=⟨ND,o,none⟩) e2).trans (h.df o),h.rd⟩⟩
  ·rw [hg]
   by_cases c:j=k
   ·subst c;rw [if_pos rfl];simp only [if_true];exact hst
   ·rw [if_neg (Ne.symm c)];simp only [if_neg c]
    exact(h.st j hj).near fun o h1 h2=>hout o (by omega)
  ·rw [hg]at ht
   by_cases c:j=k
   ·subst c
    rw [if_pos rfl]at ht
    obtain rfl:=Option.some.inj ht
    simp only [if_true]
    exact⟨hrow,hr2.2,hr2.1⟩
   ·rw [if_neg (Ne.symm c)]at ht
    simp only [if_neg c]
    obtain⟨a,b',c'⟩:=h.row j t hj ht
    exact⟨hmod.row a fun g hgb q=>by have:=(a.lt g hgb).1;omega,b',c'⟩
  ·rw [hg]at ht hu
   by_cases c1:j=k
   ·subst c1
    rw [if_neg (by omega)]at hu
    simp only [if_true]at hgb
    simp only [if_neg (by omega:¬k2=j)]at hv
    exact hnew k2 u (by omega) (by omega) hu g hv hgb
   ·rw [if_neg (Ne.symm c1)]at ht
    simp only [if_neg c1]at hgb
    by_cases c2:k2=k
    ·subst c2
     simp only [if_true]at hv
     exact hnew j t hj c1 ht g hgb hv
    ·rw [if_neg (Ne.symm c2)]at hu
     simp only [if_neg c2]at hv
     exact h.dis j k2 t u g hj hjk ht hu hgb hv
end
def SepB(T:List (Option (List Int × List Int)))(Rl:Nat→Value)(b:Nat):Prop:=∀k t,T.getD k none=some t→(Rl k).ownBlock≠some b
section
variable {n NS m : Nat} {W0 w w' : World} {T : List (Option (List Int × List Int))} {Rs Rl : Nat → Value}
theorem WInv.grows(h:WInv n NS m W0 T Rs Rl w)(hg:w.Grows w'):WInv n NS m W0 T Rs Rl w':=by
 have hs:=hg.below.size
 have hsz:=h.sz
 have e1:=hg.below.block NS h.sz
 have c:∀o,w'.cell? ⟨NS,o,none⟩=w.cell? ⟨NS,o,none⟩:=fun o=>World.cell?_of_block (a:=⟨NS,o,none⟩) e1
 refine⟨by omega,h.lo.trans (hg.below.mono (by omega)),h.len,fun j hj=>?_,fun o=>(World.frozen?_of_block (a:=⟨NS,o,none⟩) e1).trans (h.sf o),fun j t ht=>?_,h.dl,h.ds⟩
 ·exact mz8
 ·obtain⟨a,b,r⟩:=h.row j t ht
  exact⟨Mods.row (P:=fun _=>False) (.grows hg) a fun _ _ e=>e,Mods.row (P:=fun _=>False) (.grows hg) b fun _ _ e=>e,r⟩
def MtP(n NS m:Nat)(W0:World)(T:List (Option (List Int × List Int)))(Rl:Nat→Value)(k:Nat)(s:List Int × List Int)(w:World)(e:Ending)(w':World):Prop:=
 ∃b,e= .returned (.bool b)∧Below NS W0 w'∧w.heap.size≤w'.heap.size∧(∀c,c<w.heap.size→c≠NS→SepB T Rl c→w'.heap[c]? =w.heap[c]?)∧
  ((b=false∧putB T k s=none)∨(b=true∧∃T' Rs' Rl',putB T k s=some T'∧WInv n NS m W0 T' Rs' Rl' w'∧∀c,c<w.heap.size→SepB T Rl c→SepB T' Rl' c))
theorem getD_setT{α:Type}(l:List (Option α))(k j:Nat)(a:Option α)(hk:k<l.length):(l.set k a).getD j none=if k=j then a else l.getD j none:=by
 rw [getD_set_eq]
 by_cases c:k=j
 ·subst c;rw [if_pos ⟨rfl,hk⟩,if_pos rfl]
 ·rw [if_neg (fun q=>c q.1),if_neg c]
theorem WInv.meet(h:WInv n NS m W0 T Rs Rl w){k B1 B2:Nat}{s:List Int × List Int}{vz vl:Value}(hkn:k≤n)(hz:w.ownsRow B1 3 1 vz s.1.length (s.1.map (Value.int .i64)))(hl:w.ownsRow B2 3 1 vl s.2.length (s.2.map (Value.int .i64)))
 (h24:s.1.length≤24) (hm:s.2.length=m) (hm12:m≤12) (hp1:∀z∈s.1,1≤z) (hp2:∀z∈s.2,0≤z) (hnz:vz.ownBlock≠some NS) (hnl:vl.ownBlock≠some NS) (hsz:∀b,vz.ownBlock=some b→SepB T Rl b) (hsl:∀b,vl.ownBlock=some b→SepB T Rl b) :
 Calls Tryz.prog 46 #[.pointer (some ⟨NS,k*3,none⟩),vz,vl] w (MtP n NS m W0 T Rl k s w):=by
 have hs0:=h.sz
 have hkl:k<T.length:=by rw [h.len];omega
 cases hT:T.getD k none with
 |none=>
  have hst:=h.st k hkn
  rw [hT]at hst
  refine(meet_new NS (k*3) B1 B2 s.1 s.2 vz vl w h.sz hst h.sf hz hl (by omega) (by omega) hnz hnl).mono ?_
  rintro e w' ⟨rfl,v1,v2,hu,r1,r2,hd⟩
  have hsz':=hu.mods.size
  have hput:putB T k s=some (T.set k (some s)):=by unfold putB;rw [hT]
  have hg:∀j,(T.set k (some s)).getD j none=if k=j then some s else T.getD j none:=fun j=>getD_setT T k j _ hkl
  have hlt1:∀j t,T.getD j none=some t→(∀g,(Rs j).ownBlock=some g→NS+1≤g∧g<w.heap.size)∧(∀g,(Rl j).ownBlock=some g→NS+1≤g∧g<w.heap.size):=fun j t ht=>⟨fun g=>(h.row j t ht).1.lt g,fun g=>(h.row j t ht).2.1.lt g⟩
  refine⟨true,rfl,h.lo.trans ⟨hu.mods.os,hu.mods.tape,hu.mods.output,hu.mods.size,fun b hb=>hu.mods.block b (by omega) (by omega)⟩,hsz',fun c hc hne _=>hu.mods.block c hc hne,.inr ⟨rfl,T.set k (some s),fun j=>if j=k then v1 else Rs j,fun j=>if j=k then v2 else Rl j,hput,⟨by omega,h.lo.trans ⟨hu.mods.os,hu.mods.tape,hu.mods.output,hu.mods.size,fun b hb=>hu.mods.block b (by omega) (by omega)⟩,by rw [List.length_set];exact h.len,fun j hj=>?_,fun o=>(hu.frz o).trans (h.sf o),fun j t ht=>?_,fun j k2 t u g hjk ht hu' hgb hv=>?_,fun j k2 t u g ht hu' hgb hv=>?_⟩,fun c hc hsep k2 t ht hv=>?_⟩⟩
  ·rw [hg]
   by_cases c:k=j
   ·subst c;rw [if_pos rfl];simp only [if_true];exact hu.cells
   ·rw [if_neg c];simp only [if_neg (Ne.symm c)]
    have hsj:=h.st j hj
    have near:∀o,o<3→w'.cell? ⟨NS,j*3+o,none⟩=w.cell? ⟨NS,j*3+o,none⟩:=fun o ho=>hu.out _ (by simp;omega)
    cases hj2:T.getD j none with
    |none=>
     rw [hj2]at hsj
     exact fun i u hu2=>by
      have hi:i<3:=by have:=(List.getElem?_eq_some_iff.1 hu2).1;simpa using this
      rw [near i hi];exact hsj i u hu2
    |some t=>
     rw [hj2]at hsj
     exact fun i u hu2=>by
      have hi:i<3:=by have:=(List.getElem?_eq_some_iff.1 hu2).1;simpa using this
      rw [near i hi];exact hsj i u hu2
  ·rw [hg]at ht
   by_cases c:k=j
   ·subst c
    rw [if_pos rfl]at ht
    obtain rfl:=Option.some.inj ht
    simp only [if_true]
    exact⟨own_lower r1 (by omega),own_lower r2 (by omega),h24,hm,hp1,hp2⟩
   ·rw [if_neg c]at ht
    simp only [if_neg (Ne.symm c)]
    obtain⟨a,b,r⟩:=h.row j t ht
    exact⟨hu.mods.row a fun g hgb q=>by have:=(a.lt g hgb).1;omega,hu.mods.row b fun g hgb q=>by have:=(b.lt g hgb).1;omega,r⟩
  ·rw [hg]at ht hu'
   by_cases c1:k=j
   ·subst c1
    rw [if_neg (by omega)]at hu'
    simp only [if_true]at hgb
    simp only [if_neg (Ne.symm hjk)]at hv
    have q1:=(r2.lt g hgb).1
    have q2:=((hlt1 k2 u hu').2 g hv).2
    omega
   ·rw [if_neg c1]at ht
    simp only [if_neg (Ne.symm c1)]at hgb
    by_cases c2:k=k2
    ·subst c2
     simp only [if_true]at hv
     have q1:=(r2.lt g hv).1
     have q2:=((hlt1 j t ht).2 g hgb).2
     omega
    ·rw [if_neg c2]at hu'
     simp only [if_neg (Ne.symm c2)]at hv
     exact h.dl j k2 t u g hjk ht hu' hgb hv
  ·rw [hg]at ht hu'
   by_cases c1:k=j
   ·subst c1
    simp only [if_true]at hgb
    by_cases c2:k=k2
    ·subst c2
     simp only [if_true]at hv
     exact hd g hv hgb
    ·rw [if_neg c2]at hu'
     simp only [if_neg (Ne.symm c2)]at hv
     have q1:=(r2.lt g hgb).1
     have q2:=((hlt1 k2 u hu').1 g hv).2
     omega
   ·rw [if_neg c1]at ht
    simp only [if_neg (Ne.symm c1)]at hgb
    by_cases c2:k=k2
    ·subst c2
     simp only [if_true]at hv
     have q1:=(r1.lt g hv).1
     have q2:=((hlt1 j t ht).2 g hgb).2
     omega
    ·rw [if_neg c2]at hu'
     simp only [if_neg (Ne.symm c2)]at hv
     exact h.ds j k2 t u g ht hu' hgb hv
  ·rw [hg]at ht
   by_cases c1:k=k2
   ·subst c1
    simp only [if_true]at hv
    have q1:=(r2.lt c hv).1
    omega
   ·rw [if_neg c1]at ht
    simp only [if_neg (Ne.symm c1)]at hv
    exact hsep k2 t ht hv
 |some t=>
  have hst:=h.st k hkn
  rw [hT]at hst
  obtain⟨a1,a2,a3,a4,a5,a6⟩:=h.row k t hT
  have hb2:∀g,(Rl k).ownBlock=some g→NS+1≤g:=fun g hg=>(a2.lt g hg).1
  refine(meet_old NS (k*3) (NS+1) B1 B2 t.1 t.2 s.1 s.2 (Rs k) (Rl k) vz vl w h.sz hst a1 a2 hz hl (by omega) (by omega) (by omega) (fun e=>by have:=hb2 _ e;omega) (fun g hg=>h.ds k k t t g hT hT hg) (fun g hg e=>hsz g e k t hT hg) (fun g hg e=>hsl g e k t hT hg)).mono ?_
  rintro e w' ⟨rfl,hmd,hrow⟩
  have hsz':=hmd.size
  have hlo:Below NS W0 w':=h.lo.trans ⟨hmd.os,hmd.tape,hmd.output,hmd.size,fun b hb=>hmd.block b (by omega) (fun e=>by have:=hb2 b e;omega)⟩
  have hnsb:w'.heap[NS]? =w.heap[NS]?:=hmd.block NS h.sz (fun e=>by have:=hb2 NS e;omega)
  refine⟨decide (t.1=s.1),rfl,hlo,hsz',fun c hc _ hsep=>hmd.block c hc (hsep k t hT), ?_⟩
  by_cases he:t.1=s.1
  ·rw [decide_eq_true he]
   have hput:putB T k s=some (T.set k (some (t.1,List.zipWith (fun a b=>if b=0 then 0 else a) t.2 s.2))):=by unfold putB;rw [hT];simp only [if_pos he]
   have hg:∀j,(T.set k (some (t.1,List.zipWith (fun a b=>if b=0 then 0 else a) t.2 s.2))).getD j none=if k=j then some (t.1,List.zipWith (fun a b=>if b=0 then 0 else a) t.2 s.2)else T.getD j none:=fun j=>getD_setT T k j _ hkl
   have hz2:(List.zipWith (fun(a b:Int)=>if b=0 then 0 else a) t.2 s.2).length=m:=by rw [List.length_zipWith,a4,hm];omega
   have hex:∀j u,(T.set k (some (t.1,List.zipWith (fun a b=>if b=0 then 0 else a) t.2 s.2))).getD j none=some u→∃u',T.getD j none=some u':=fun j u hu=>by
    rw [hg]at hu
    by_cases c:k=j
    ·subst c;exact⟨t,hT⟩
    ·rw [if_neg c]at hu;exact⟨u,hu⟩
   refine .inr ⟨rfl,_,Rs,Rl,hput,⟨by omega,hlo,by rw [List.length_set];exact h.len,fun j hj=>?_,fun o=>(World.frozen?_of_block (a:=⟨NS,o,none⟩) hnsb).trans (h.sf o),fun j u hu=>?_,fun j k2 u v g hjk hu hv=>?_,fun j k2 u v g hu hv=>?_⟩,fun c hc hsep j u hu=>?_⟩
   ·rw [hg]
    have hsj:=h.st j hj
    have cc:∀o,w'.cell? ⟨NS,o,none⟩=w.cell? ⟨NS,o,none⟩:=fun o=>World.cell?_of_block (a:=⟨NS,o,none⟩) hnsb
    by_cases c:k=j
    ·subst c;rw [if_pos rfl];exact CellsAt.same hst cc
    ·rw [if_neg c]
     cases hj2:T.getD j none with
     |none=>rw [hj2]at hsj;exact CellsAt.same hsj cc
     |some _=>rw [hj2]at hsj;exact CellsAt.same hsj cc
   ·rw [hg]at hu
    by_cases c:k=j
    ·subst c
     rw [if_pos rfl]at hu
     obtain rfl:=Option.some.inj hu
     refine⟨hmd.row a1 fun g hgb q=>h.ds k k t t g hT hT q hgb, ?_,a3,hz2,a5,fun z hz'=>?_⟩
     ·show w'.ownsRow (NS+1) 3 1 (Rl k) (List.zipWith (fun(a b:Int)=>if b=0 then 0 else a) t.2 s.2).length _
      rw [hz2,←a4];exact hrow
     ·obtain⟨i,hi,rfl⟩:=List.mem_iff_getElem.1 hz'
      simp only [List.getElem_zipWith]
      split
      ·omega
      ·exact a6 _ (List.getElem_mem _)
    ·rw [if_neg c]at hu
     obtain⟨b1,b2,r⟩:=h.row j u hu
     exact⟨hmd.row b1 fun g hgb q=>h.ds k j t u g hT hu q hgb,hmd.row b2 fun g hgb q=>h.dl k j t u g c hT hu q hgb,r⟩
   ·obtain⟨u',hu'⟩:=hex j u hu
    obtain⟨v',hv'⟩:=hex k2 v hv
    exact h.dl j k2 u' v' g hjk hu' hv'
   ·obtain⟨u',hu'⟩:=hex j u hu
    obtain⟨v',hv'⟩:=hex k2 v hv
    exact h.ds j k2 u' v' g hu' hv'
   ·obtain⟨u',hu'⟩:=hex j u hu
    exact hsep j u' hu'
  ·rw [decide_eq_false he]
   exact .inl ⟨rfl,by unfold putB;rw [hT];simp only [if_neg he]⟩
end
end Go.Proofs.YtaghhncnicbedaaGreatDoor
