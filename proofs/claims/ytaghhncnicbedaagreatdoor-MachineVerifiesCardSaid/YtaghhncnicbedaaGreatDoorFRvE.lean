import Derived.Test.YtaghhncnicbedaaGreatDoorFRvB
import Derived.Test.YtaghhncnicbedaaGreatDoorFMchV1
import Derived.Test.YtaghhncnicbedaaGreatDoorFK
import Derived.Deep.OwnRows
set_option linter.all false
set_option maxHeartbeats 16000000
set_option maxRecDepth 1000000
namespace Go.Proofs.YtaghhncnicbedaaGreatDoor
open Go.RowKit
def SepB(T:List (Option (List Int × List Int)))(Rl:Nat→Value)(b:Nat):Prop:=∀k t,T.getD k none=some t→(Rl k).ownBlock≠some b
section
variable {n NS m : Nat} {W0 w w' : World} {T : List (Option (List Int × List Int))} {Rs Rl : Nat → Value}
theorem WInv.grows(h:WInv n NS m W0 T Rs Rl w)(hg:w.Grows w'):WInv n NS m W0 T Rs Rl w':=by
 have hs:=hg.below.size
 have hsz:=h.sz
 have e1:=hg.below.block NS h.sz
 have c:∀o,w'.cell? ⟨NS,o,none⟩=w.cell? ⟨NS,o,none⟩:=fun o=>World.cell?_of_block (a:=⟨NS,o,none⟩) e1
 refine⟨by omega,h.lo.trans (hg.below.mono (by omega)),h.len,fun j hj=>?_,fun o=>(World.frozen?_of_block (a:=⟨NS,o,none⟩) e1).trans (h.sf o),fun j t ht=>?_,h.dl,h.ds⟩
 ·exact fz44
 ·obtain⟨a,b,r⟩:=h.row j t ht
  exact⟨Mods.row (P:=fun _=>False) (.grows hg) a fun _ _ e=>e,Mods.row (P:=fun _=>False) (.grows hg) b fun _ _ e=>e,r⟩
def MtP(n NS m:Nat)(W0:World)(T:List (Option (List Int × List Int)))(Rl:Nat→Value)(k:Nat)(s:List Int × List Int)(w:World)(e:Ending)(w':World):Prop:=
 ∃b,e= .returned (.bool b)∧Below NS W0 w'∧w.heap.size≤w'.heap.size∧(∀c,c<w.heap.size→c≠NS→SepB T Rl c→w'.heap[c]? =w.heap[c]?)∧
  ((b=false∧putB T k s=none)∨(b=true∧∃T' Rs' Rl',putB T k s=some T'∧WInv n NS m W0 T' Rs' Rl' w'∧∀c,c<w.heap.size→SepB T Rl c→SepB T' Rl' c))
theorem getD_setT{α:Type}(l:List (Option α))(k j:Nat)(a:Option α)(hk:k<l.length):(l.set k a).getD j none=if k=j then a else l.getD j none:=by
 rw [getD_set_eq]
 by_cases c:k=j
 ·subst c;rw [if_pos ⟨rfl,hk⟩,if_pos rfl]
 ·rw [if_neg (fun q=>c q.1),if_neg c]
theorem WInv.meet(h:WInv n NS m W0 T Rs Rl w){k B1 B2:Nat}{s:List Int × List Int}{vz vl:Value}(hkn:k≤n)(hz:w.ownsRow B1 3 1 vz s.1.length (s.1.map (Value.int .i64)))(hl:w.ownsRow B2 3 1 vl s.2.length (s.2.map (Value.int .i64)))
 (h24:s.1.length≤24) (hm:s.2.length=m) (hm12:m≤12) (hp1:∀z∈s.1,1≤z) (hp2:∀z∈s.2,0≤z) (hnz:vz.ownBlock≠some NS) (hnl:vl.ownBlock≠some NS) (hsz:∀b,vz.ownBlock=some b→SepB T Rl b) (hsl:∀b,vl.ownBlock=some b→SepB T Rl b) :
 Calls Tryz.prog 46 #[.pointer (some ⟨NS,k*3,none⟩),vz,vl] w (MtP n NS m W0 T Rl k s w):=by
 have hs0:=h.sz
 have hkl:k<T.length:=by rw [h.len];omega
 cases hT:T.getD k none with
 |none=>
  have hst:=h.st k hkn
  rw [hT]at hst
  refine(meet_new NS (k*3) B1 B2 s.1 s.2 vz vl w h.sz hst h.sf hz hl (by omega) (by omega) hnz hnl).mono ?_
  rintro e w' ⟨rfl,v1,v2,hu,r1,r2,hd⟩
  have hsz':=hu.mods.size
  have hput:putB T k s=some (T.set k (some s)):=by unfold putB;rw [hT]
  have hg:∀j,(T.set k (some s)).getD j none=if k=j then some s else T.getD j none:=fun j=>getD_setT T k j _ hkl
  have hlt1:∀j t,T.getD j none=some t→(∀g,(Rs j).ownBlock=some g→NS+1≤g∧g<w.heap.size)∧(∀g,(Rl j).ownBlock=some g→NS+1≤g∧g<w.heap.size):=fun j t ht=>⟨fun g=>(h.row j t ht).1.lt g,fun g=>(h.row j t ht).2.1.lt g⟩
  refine⟨true,rfl,h.lo.trans ⟨hu.mods.os,hu.mods.tape,hu.mods.output,hu.mods.size,fun b hb=>hu.mods.block b (by omega) (by omega)⟩,hsz',fun c hc hne _=>hu.mods.block c hc hne,.inr ⟨rfl,T.set k (some s),fun j=>if j=k then v1 else Rs j,fun j=>if j=k then v2 else Rl j,hput,⟨by omega,h.lo.trans ⟨hu.mods.os,hu.mods.tape,hu.mods.output,hu.mods.size,fun b hb=>hu.mods.block b (by omega) (by omega)⟩,by rw [List.length_set];exact h.len,fun j hj=>?_,fun o=>(hu.frz o).trans (h.sf o),fun j t ht=>?_,fun j k2 t u g hjk ht hu' hgb hv=>?_,fun j k2 t u g ht hu' hgb hv=>?_⟩,fun c hc hsep k2 t ht hv=>?_⟩⟩
  ·rw [hg]
   by_cases c:k=j
   ·subst c;rw [if_pos rfl];simp only [if_true];exact hu.cells
   ·rw [if_neg c];simp only [if_neg (Ne.symm c)]
    have hsj:=h.st j hj
    have near:∀o,o<3→w'.cell? ⟨NS,j*3+o,none⟩=w.cell? ⟨NS,j*3+o,none⟩:=fun o ho=>hu.out _ (by simp;omega)
    cases hj2:T.getD j none with
    |none=>
     rw [hj2]at hsj
     exact fun i u hu2=>by
      have hi:i<3:=by have:=(List.getElem?_eq_some_iff.1 hu2).1;simpa using this
      rw [near i hi];exact hsj i u hu2
    |some t=>
     rw [hj2]at hsj
     exact fun i u hu2=>by
      have hi:i<3:=by have:=(List.getElem?_eq_some_iff.1 hu2).1;simpa using this
      rw [near i hi];exact hsj i u hu2
  ·rw [hg]at ht
   by_cases c:k=j
   ·subst c
    rw [if_pos rfl]at ht
    obtain rfl:=Option.some.inj ht
    simp only [if_true]
    exact⟨own_lower r1 (by omega),own_lower r2 (by omega),h24,hm,hp1,hp2⟩
   ·rw [if_neg c]at ht
    simp only [if_neg (Ne.symm c)]
    obtain⟨a,b,r⟩:=h.row j t ht
    exact⟨hu.mods.row a fun g hgb q=>by have:=(a.lt g hgb).1;omega,hu.mods.row b fun g hgb q=>by have:=(b.lt g hgb).1;omega,r⟩
  ·rw [hg]at ht hu'
   by_cases c1:k=j
   ·subst c1
    rw [if_neg (by omega)]at hu'
    simp only [if_true]at hgb
    simp only [if_neg (Ne.symm hjk)]at hv
    have q1:=(r2.lt g hgb).1
    have q2:=((hlt1 k2 u hu').2 g hv).2
    omega
   ·rw [if_neg c1]at ht
    simp only [if_neg (Ne.symm c1)]at hgb
    by_cases c2:k=k2
    ·subst c2
     simp only [if_true]at hv
     have q1:=(r2.lt g hv).1
     have q2:=((hlt1 j t ht).2 g hgb).2
     omega
    ·rw [if_neg c2]at hu'
     simp only [if_neg (Ne.symm c2)]at hv
     exact h.dl j k2 t u g hjk ht hu' hgb hv
  ·rw [hg]at ht hu'
   by_cases c1:k=j
   ·subst c1
    simp only [if_true]at hgb
    by_cases c2:k=k2
    ·subst c2
     simp only [if_true]at hv
     exact hd g hv hgb
    ·rw [if_neg c2]at hu'
     simp only [if_neg (Ne.symm c2)]at hv
     have q1:=(r2.lt g hgb).1
     have q2:=((hlt1 k2 u hu').1 g hv).2
     omega
   ·rw [if_neg c1]at ht
    simp only [if_neg (Ne.symm c1)]at hgb
    by_cases c2:k=k2
    ·subst c2
     simp only [if_true]at hv
     have q1:=(r1.lt g hv).1
     have q2:=((hlt1 j t ht).2 g hgb).2
     omega
    ·rw [if_neg c2]at hu'
     simp only [if_neg (Ne.symm c2)]at hv
     exact h.ds j k2 t u g ht hu' hgb hv
  ·rw [hg]at ht
   by_cases c1:k=k2
   ·subst c1
    simp only [if_true]at hv
    have q1:=(r2.lt c hv).1
    omega
   ·rw [if_neg c1]at ht
    simp only [if_neg (Ne.symm c1)]at hv
    exact hsep k2 t ht hv
 |some t=>
  have hst:=h.st k hkn
  rw [hT]at hst
  obtain⟨a1,a2,a3,a4,a5,a6⟩:=h.row k t hT
  have hb2:∀g,(Rl k).ownBlock=some g→NS+1≤g:=fun g hg=>(a2.lt g hg).1
  refine(meet_old NS (k*3) (NS+1) B1 B2 t.1 t.2 s.1 s.2 (Rs k) (Rl k) vz vl w h.sz hst a1 a2 hz hl (by omega) (by omega) (by omega) (fun e=>by have:=hb2 _ e;omega) (fun g hg=>h.ds k k t t g hT hT hg) (fun g hg e=>hsz g e k t hT hg) (fun g hg e=>hsl g e k t hT hg)).mono ?_
  rintro e w' ⟨rfl,hmd,hrow⟩
  have hsz':=hmd.size
  have hlo:Below NS W0 w':=h.lo.trans ⟨hmd.os,hmd.tape,hmd.output,hmd.size,fun b hb=>hmd.block b (by omega) (fun e=>by have:=hb2 b e;omega)⟩
  have hnsb:w'.heap[NS]? =w.heap[NS]?:=hmd.block NS h.sz (fun e=>by have:=hb2 NS e;omega)
  refine⟨decide (t.1=s.1),rfl,hlo,hsz',fun c hc _ hsep=>hmd.block c hc (hsep k t hT), ?_⟩
  by_cases he:t.1=s.1
  ·rw [decide_eq_true he]
   have hput:putB T k s=some (T.set k (some (t.1,List.zipWith (fun a b=>if b=0 then 0 else a) t.2 s.2))):=by unfold putB;rw [hT];simp only [if_pos he]
   have hg:∀j,(T.set k (some (t.1,List.zipWith (fun a b=>if b=0 then 0 else a) t.2 s.2))).getD j none=if k=j then some (t.1,List.zipWith (fun a b=>if b=0 then 0 else a) t.2 s.2)else T.getD j none:=fun j=>getD_setT T k j _ hkl
   have hz2:(List.zipWith (fun(a b:Int)=>if b=0 then 0 else a) t.2 s.2).length=m:=by rw [List.length_zipWith,a4,hm];omega
   have hex:∀j u,(T.set k (some (t.1,List.zipWith (fun a b=>if b=0 then 0 else a) t.2 s.2))).getD j none=some u→∃u',T.getD j none=some u':=fun j u hu=>by
    rw [hg]at hu
    by_cases c:k=j
    ·subst c;exact⟨t,hT⟩
    ·rw [if_neg c]at hu;exact⟨u,hu⟩
   refine .inr ⟨rfl,_,Rs,Rl,hput,⟨by omega,hlo,by rw [List.length_set];exact h.len,fun j hj=>?_,fun o=>(World.frozen?_of_block (a:=⟨NS,o,none⟩) hnsb).trans (h.sf o),fun j u hu=>?_,fun j k2 u v g hjk hu hv=>?_,fun j k2 u v g hu hv=>?_⟩,fun c hc hsep j u hu=>?_⟩
   ·rw [hg]
    have hsj:=h.st j hj
    have cc:∀o,w'.cell? ⟨NS,o,none⟩=w.cell? ⟨NS,o,none⟩:=fun o=>World.cell?_of_block (a:=⟨NS,o,none⟩) hnsb
    by_cases c:k=j
    ·subst c;rw [if_pos rfl];exact CellsAt.same hst cc
    ·rw [if_neg c]
     cases hj2:T.getD j none with
     |none=>rw [hj2]at hsj;exact CellsAt.same hsj cc
     |some _=>rw [hj2]at hsj;exact CellsAt.same hsj cc
   ·rw [hg]at hu
    by_cases c:k=j
    ·subst c
     rw [if_pos rfl]at hu
     obtain rfl:=Option.some.inj hu
     refine⟨hmd.row a1 fun g hgb q=>h.ds k k t t g hT hT q hgb, ?_,a3,hz2,a5,fun z hz'=>?_⟩
     ·show w'.ownsRow (NS+1) 3 1 (Rl k) (List.zipWith (fun(a b:Int)=>if b=0 then 0 else a) t.2 s.2).length _
      rw [hz2,←a4];exact hrow
     ·obtain⟨i,hi,rfl⟩:=List.mem_iff_getElem.1 hz'
      simp only [List.getElem_zipWith]
      split
      ·omega
      ·exact a6 _ (List.getElem_mem _)
    ·rw [if_neg c]at hu
     obtain⟨b1,b2,r⟩:=h.row j u hu
     exact⟨hmd.row b1 fun g hgb q=>h.ds k j t u g hT hu q hgb,hmd.row b2 fun g hgb q=>h.dl k j t u g c hT hu q hgb,r⟩
   ·obtain⟨u',hu'⟩:=hex j u hu
    obtain⟨v',hv'⟩:=hex k2 v hv
    exact h.dl j k2 u' v' g hjk hu' hv'
   ·obtain⟨u',hu'⟩:=hex j u hu
    obtain⟨v',hv'⟩:=hex k2 v hv
    exact h.ds j k2 u' v' g hu' hv'
   ·obtain⟨u',hu'⟩:=hex j u hu
    exact hsep j u' hu'
  ·rw [decide_eq_false he]
   exact .inl ⟨rfl,by unfold putB;rw [hT];simp only [if_neg he]⟩
end
def StpP(n NS m:Nat)(W0:World)(T:List (Option (List Int × List Int)))(x:Ins)(i:Nat)(e:Ending)(w':World):Prop:=
 ∃b,e= .returned (.bool b)∧Below NS W0 w'∧((b=false∧rndB T x i=none)∨(b=true∧∃T' Rs' Rl',rndB T x i=some T'∧WInv n NS m W0 T' Rs' Rl' w'))
def StMid(n NS m:Nat)(W0:World)(T:List (Option (List Int × List Int)))(t:List Int × List Int)(x:Ins)(v8 v9 v11:Value)(w:World):Prop:=
 ∃(zs ls:List Int) (p:Int) (T1:List (Option (List Int × List Int))) (Rs1 Rl1:Nat→Value) (B:Nat),v11= .int .i64 p∧0≤p∧x.op≠21∧w.ownsRow B 3 1 v8 zs.length (zs.map (Value.int .i64))∧w.ownsRow B 3 1 v9 ls.length (ls.map (Value.int .i64))∧B≤w.heap.size∧NS<B∧
  appB x t=some (if p=0 then zs else zs++[p],ls)∧((x.op≠22∧T1=T)∨(x.op=22∧p=0∧putB T x.a.toNat (zs,ls)=some T1))∧WInv n NS m W0 T1 Rs1 Rl1 w∧(∀b,v8.ownBlock=some b→SepB T1 Rl1 b)∧(∀b,v9.ownBlock=some b→SepB T1 Rl1 b)∧(∀b,v8.ownBlock=some b→v9.ownBlock≠some b)∧
  zs.length≤24∧ls.length=m∧(∀z∈zs,1≤z)∧(∀z∈ls,0≤z)∧(∀b,v8.ownBlock=some b→B≤b)∧(∀b,v9.ownBlock=some b→B≤b)∧(p≠0→∀b j u,v8.ownBlock=some b→T1.getD j none=some u→(Rs1 j).ownBlock≠some b∧(Rl1 j).ownBlock≠some b)
theorem appB_1{x:Ins}{s:List Int × List Int}(h:x.op=1):appB x s=some (s.1++[x.a],s.2):=by unfold appB;rw [if_pos h]
theorem appB_2{x:Ins}{s:List Int × List Int}(h:x.op=2):appB x s=some (s.1++[inDs.getD x.a.toNat 0],s.2):=by unfold appB;rw [if_neg (by omega),if_pos h]
theorem appB_5{x:Ins}{s:List Int × List Int}(h:x.op=5):appB x s=some (s.1++[4],s.2):=by unfold appB;rw [if_neg (by omega),if_neg (by omega),if_pos h]
theorem appB_23{x:Ins}{s:List Int × List Int}(h:x.op=23∨x.op=24):appB x s=some (s.1++[1],s.2):=by unfold appB;rw [if_neg (by omega),if_neg (by omega),if_neg (by omega),if_pos h]
theorem appB_3{x:Ins}{s:List Int × List Int}(h:x.op=3):appB x s=if s.2.getD x.a.toNat 0=0 then none else some (s.1++[s.2.getD x.a.toNat 0],s.2):=by unfold appB;rw [if_neg (by omega),if_neg (by omega),if_neg (by omega),if_neg (by omega),if_pos h]
theorem appB_4{x:Ins}{s:List Int × List Int}(h:x.op=4):appB x s=if s.1= []then none else some (s.1.dropLast,s.2.set x.a.toNat (s.1.getLastD 0)):=by unfold appB;rw [if_neg (by omega),if_neg (by omega),if_neg (by omega),if_neg (by omega),if_neg (by omega),if_pos h]
theorem appB_22{x:Ins}{s:List Int × List Int}(h:x.op=22):appB x s=if s.1= []∨s.1.getLastD 0≠1 then none else some (s.1.dropLast,s.2):=by unfold appB;rw [if_neg (by omega),if_neg (by omega),if_neg (by omega),if_neg (by omega),if_neg (by omega),if_neg (by omega),if_pos h]
theorem appB_21{x:Ins}{s:List Int × List Int}(h:x.op=21):appB x s=some s:=by unfold appB;rw [if_neg (by omega),if_neg (by omega),if_neg (by omega),if_neg (by omega),if_neg (by omega),if_neg (by omega),if_neg (by omega),if_pos h]
theorem appB_o{x:Ins}{s:List Int × List Int}(h:x.op≠1∧x.op≠2∧x.op≠3∧x.op≠4∧x.op≠5∧x.op≠21∧x.op≠22∧x.op≠23∧x.op≠24) :
 appB x s=if s.1.length<ariF (opF x.op)then none else if resD (opF x.op) (s.1.drop (s.1.length-ariF (opF x.op)))=0 then none
  else some (s.1.take (s.1.length-ariF (opF x.op))++[resD (opF x.op) (s.1.drop (s.1.length-ariF (opF x.op)))],s.2):=by
 unfold appB
 rw [if_neg (by omega),if_neg (by omega),if_neg (by omega),if_neg (by omega),if_neg (by omega),if_neg (by omega),if_neg (by omega),if_neg (by omega)]
theorem rndB_no{T:List (Option (List Int × List Int))}{t:List Int × List Int}{x:Ins}{i:Nat}(hT:T.getD i none=some t)(h:appB x t=none):rndB T x i=none:=by unfold rndB;rw [hT];simp only [h]
theorem rndB_21{T:List (Option (List Int × List Int))}{t:List Int × List Int}{x:Ins}{i:Nat}(hT:T.getD i none=some t)(h:x.op=21):rndB T x i=putB T x.a.toNat t:=by unfold rndB;rw [hT];simp only [appB_21 h,if_pos h]
theorem rndB_22no{T:List (Option (List Int × List Int))}{t s:List Int × List Int}{x:Ins}{i:Nat}(hT:T.getD i none=some t)(ha:appB x t=some s)(h:x.op=22)(hp:putB T x.a.toNat s=none):rndB T x i=none:=by unfold rndB;rw [hT];simp only [ha,if_neg (show ¬x.op=21 by omega),if_pos h,hp]
theorem rndB_end{T T1:List (Option (List Int × List Int))}{t s:List Int × List Int}{x:Ins}{i:Nat}(hT:T.getD i none=some t)(ha:appB x t=some s)(h21:x.op≠21)(h:(x.op≠22∧T1=T)∨(x.op=22∧putB T x.a.toNat s=some T1)):rndB T x i=if 24<s.1.length then none else putB T1 (i+1) s:=by
 unfold rndB;rw [hT]
 rcases h with ⟨h,rfl⟩|⟨h,hp⟩
 ·simp only [ha,if_neg h21,if_neg h]
 ·simp only [ha,if_neg h21,if_pos h,hp]
theorem WInv.mods{n NS m:Nat}{W0 w w':World}{T:List (Option (List Int × List Int))}{Rs Rl:Nat→Value}{v:Value}(h:WInv n NS m W0 T Rs Rl w)(hm:Mods (fun b=>v.ownBlock=some b) w w')(hNS:∀b,v.ownBlock=some b→NS<b)(hs:∀b j u,v.ownBlock=some b→T.getD j none=some u→(Rs j).ownBlock≠some b∧(Rl j).ownBlock≠some b):WInv n NS m W0 T Rs Rl w':=by
 have hs0:=h.sz
 have hz:=hm.size
 have e1:w'.heap[NS]? =w.heap[NS]?:=hm.block NS h.sz (fun e=>by have:=hNS NS e;omega)
 have c:∀o,w'.cell? ⟨NS,o,none⟩=w.cell? ⟨NS,o,none⟩:=fun o=>World.cell?_of_block (a:=⟨NS,o,none⟩) e1
 refine⟨by omega,h.lo.trans ⟨hm.os,hm.tape,hm.output,hm.size,fun b hb=>hm.block b (by omega) (fun e=>by have:=hNS b e;omega)⟩,h.len,fun j hj=>?_,fun o=>(World.frozen?_of_block (a:=⟨NS,o,none⟩) e1).trans (h.sf o),fun j t ht=>?_,h.dl,h.ds⟩
 ·exact fz44
 ·obtain⟨a,b,r⟩:=h.row j t ht
  exact⟨hm.row a fun g hg e=>(hs g j t e ht).1 hg,hm.row b fun g hg e=>(hs g j t e ht).2 hg,r⟩
theorem own_block{w w':World}{B size n:Nat}{e:TypeId}{v:Value}{xs:List Value}(h:w.ownsRow B e size v n xs)(he:∀b,v.ownBlock=some b→w'.heap[b]? =w.heap[b]?):w'.ownsRow B e size v n xs:=by
 refine⟨h.1, ?_⟩
 rcases h.2 with hh|⟨g,cap,cur,rfl,hb,hgg,rest⟩
 ·exact .inl hh
 ·exact .inr ⟨g,cap,cur,rfl,hb,by rw [he g rfl];exact hgg,rest⟩
theorem args_ari{op:Int}(h:4≤op∧op≤20):argsN op=(ariF op:Int):=by
 unfold argsN ariF
 split
 ·omega
 split
 ·rw [if_pos (by omega)];rfl
 split
 ·rw [if_neg (by omega)];rfl
 ·omega
theorem res5_off(op:Int)(d:List Int)(g off cap:Nat)(w:World)(h4:4≤op)(h21:op≤20)(hl:(d.length:Int)=argsN op)(hx:∀x∈d,1≤x)(hc:∀k,k<d.length→w.cell? ⟨g,off+k,none⟩=some (.int .i64 (d.getD k 0))) :
 Calls Tryz.prog 98 #[.int .i64 op,.slice (some ⟨g,off,none⟩) d.length cap] w (Res5P (resD op d) w):=by
 rcases(show op=4∨op=5∨op=6∨op=7∨op=8∨op=9∨op=10∨op=11∨op=12∨op=13∨op=14∨op=15∨op=16∨op=17∨op=18∨op=19∨op=20 by omega)with rfl|rfl|rfl|rfl|rfl|rfl|rfl|rfl|rfl|rfl|rfl|rfl|rfl|rfl|rfl|rfl|rfl
 ·obtain⟨x,rfl⟩:=len1 (d:=d) (by rw [hl];rfl)
  exact res5_4 x g off cap w (hc 0 (by simp)) (hx _ (by simp))
 ·obtain⟨x,rfl⟩:=len1 (d:=d) (by rw [hl];rfl)
  exact res5_5 x g off cap w (hc 0 (by simp)) (hx _ (by simp))
 ·obtain⟨x,rfl⟩:=len1 (d:=d) (by rw [hl];rfl)
  exact res5_6 x g off cap w (hc 0 (by simp)) (hx _ (by simp))
 ·obtain⟨x,y,rfl⟩:=len2 (d:=d) (by rw [hl];rfl)
  exact res5_7 x y g off cap w (hc 0 (by simp)) (hc 1 (by simp)) ⟨hx _ (by simp),hx _ (by simp)⟩
 ·obtain⟨x,y,rfl⟩:=len2 (d:=d) (by rw [hl];rfl)
  exact res5_8 x y g off cap w (hc 0 (by simp)) (hc 1 (by simp)) ⟨hx _ (by simp),hx _ (by simp)⟩
 ·obtain⟨x,y,rfl⟩:=len2 (d:=d) (by rw [hl];rfl)
  exact res5_9 x y g off cap w (hc 0 (by simp)) (hc 1 (by simp)) ⟨hx _ (by simp),hx _ (by simp)⟩
 ·obtain⟨x,y,rfl⟩:=len2 (d:=d) (by rw [hl];rfl)
  exact res5_10 x y g off cap w (hc 0 (by simp)) (hc 1 (by simp)) ⟨hx _ (by simp),hx _ (by simp)⟩
 ·obtain⟨x,y,rfl⟩:=len2 (d:=d) (by rw [hl];rfl)
  exact res5_11 x y g off cap w (hc 0 (by simp)) (hc 1 (by simp)) ⟨hx _ (by simp),hx _ (by simp)⟩
 ·obtain⟨x,y,rfl⟩:=len2 (d:=d) (by rw [hl];rfl)
  exact res5_12 x y g off cap w (hc 0 (by simp)) (hc 1 (by simp)) ⟨hx _ (by simp),hx _ (by simp)⟩
 ·obtain⟨x,y,rfl⟩:=len2 (d:=d) (by rw [hl];rfl)
  exact res5_13 x y g off cap w (hc 0 (by simp)) (hc 1 (by simp)) ⟨hx _ (by simp),hx _ (by simp)⟩
 ·obtain⟨x,y,rfl⟩:=len2 (d:=d) (by rw [hl];rfl)
  exact res5_14 x y g off cap w (hc 0 (by simp)) (hc 1 (by simp)) ⟨hx _ (by simp),hx _ (by simp)⟩
 ·obtain⟨x,y,rfl⟩:=len2 (d:=d) (by rw [hl];rfl)
  exact res5_15 x y g off cap w (hc 0 (by simp)) (hc 1 (by simp)) ⟨hx _ (by simp),hx _ (by simp)⟩
 ·obtain⟨x,y,rfl⟩:=len2 (d:=d) (by rw [hl];rfl)
  exact res5_16 x y g off cap w (hc 0 (by simp)) (hc 1 (by simp)) ⟨hx _ (by simp),hx _ (by simp)⟩
 ·obtain⟨x,y,rfl⟩:=len2 (d:=d) (by rw [hl];rfl)
  exact res5_17 x y g off cap w (hc 0 (by simp)) (hc 1 (by simp)) ⟨hx _ (by simp),hx _ (by simp)⟩
 ·obtain⟨x,y,rfl⟩:=len2 (d:=d) (by rw [hl];rfl)
  exact res5_18 x y g off cap w (hc 0 (by simp)) (hc 1 (by simp)) ⟨hx _ (by simp),hx _ (by simp)⟩
 ·obtain⟨x,y,rfl⟩:=len2 (d:=d) (by rw [hl];rfl)
  exact res5_19 x y g off cap w (hc 0 (by simp)) (hc 1 (by simp)) ⟨hx _ (by simp),hx _ (by simp)⟩
 ·obtain⟨x,y,rfl⟩:=len2 (d:=d) (by rw [hl];rfl)
  exact res5_20 x y g off cap w (hc 0 (by simp)) (hc 1 (by simp)) ⟨hx _ (by simp),hx _ (by simp)⟩
theorem step_any(l:List Ins)(sl:List ByteArray)(vi vs:Value)(i NS:Nat)(W0:World)(T:List (Option (List Int × List Int)))(Rs Rl:Nat→Value)(t:List Int × List Int)(w:World)(hI:InsAt w vi l)(hi:i<l.length)(hw:WInv l.length NS sl.length W0 T Rs Rl w)(hx:wfF sl.length l.length i (l.getD i default)=true)(hm:sl.length≤12)(hT:T.getD i none=some t)(hvs:∃a c,vs= .slice a sl.length c) :
 Calls Tryz.prog 47 #[.agg #[vi,vs],.int .i64 i,.slice (some ⟨NS,0,none⟩) (l.length+1) (l.length+1)] w (StpP l.length NS sl.length W0 T (l.getD i default) i):=by
 obtain⟨hl6,ai,ci,rfl,hix⟩:=hI
 obtain⟨as',cs',rfl⟩:=hvs
 rcases hix with h0|⟨b,off,rfl,hb,hix⟩
 ·omega
 obtain⟨-,x0,x1,x2,x3⟩:=hix i hi
 have HW:=Lib.hid hw
 obtain⟨r1,r2,r3,r4,r5,r6⟩:=hw.row i t hT
 have HR1:=Lib.hid r1
 have HR2:=Lib.hid r2
 obtain⟨sa,sc,hsa⟩:=row_form'' r1
 obtain⟨la,lc,hla⟩:=row_form'' r2
 have hst:=hw.st i (by omega)
 rw [hT]at hst
 have s1:=hst 1 _ rfl
 have s2:=hst 2 _ rfl
 rw [hsa]at s1
 rw [hla]at s2
 have hNS:=hw.sz
 have d1:(i:Int)<(l.length:Int):=by omega
 have d2:(i:Int)<(l.length:Int)+1:=by omega
 obtain⟨x,hxe⟩:∃x,l.getD i default=x:=⟨_,rfl⟩
 rw [hxe]at x0 x1 x2 x3 hx ⊢
 have HZ:Hid (∀W,w.Grows W→W.ownsRow (NS+1) 3 1 (.slice sa t.1.length sc) t.1.length (t.1.map (Value.int .i64))):=Lib.hid (fun W hg=>by rw [←hsa];exact Mods.row (P:=fun _=>False) (.grows hg) r1 fun _ _ e=>e)
 have HL:Hid (∀W,w.Grows W→W.ownsRow (NS+1) 3 1 (.slice la t.2.length lc) t.2.length (t.2.map (Value.int .i64))):=Lib.hid (fun W hg=>by rw [←hla];exact Mods.row (P:=fun _=>False) (.grows hg) r2 fun _ _ e=>e)
 have h1k:t.1.length≤1000:=by omega
 have h2k:t.2.length≤1000:=by omega
 have H56:=Lib.hid (And.intro r5 (And.intro r6 (And.intro r3 r4)))
 clear hix hst hxe hw r1 r2 r3 r4 r5 r6
 go_enter Tryz.func47,Tryz.ntmps47
 go_wp2_with (at_builtin;refine wpList_append_ints rfl _ _ rfl (A:=[]) (base:=w.heap.size+2) rfl rfl (World.ownsRow_nil _ _ _ _) (HZ.out _ growsR) ⟨by simp,h1k⟩ (by simp) ?_)
 intro v8 w1 hv8 hg8
 obtain⟨a8,k8,rfl⟩:=row_form'' hv8
 have hL1:=World.Grows.of_below ⟨hg8.os,hg8.tape,hg8.output,hg8.size,fun k hk=>hg8.block k hk (by simp [Value.ownBlock])⟩
 have hG1:w.Grows w1:=World.Grows.trans' growsR hL1
 have hz1:w.heap.size+2≤w1.heap.size:=by have:=hg8.size;simpa using this
 have xx0:w1.cell? ⟨w.heap.size+1,0,none⟩=some (.int .i64 x.op):=by rw [World.cell?_of_block (hL1.below.block _ (by simp))];simp [go_sem]
 have xx1:w1.cell? ⟨w.heap.size+1,1,none⟩=some (.int .i64 x.a):=by rw [World.cell?_of_block (hL1.below.block _ (by simp))];simp [go_sem]
 have t2:w1.cell? ⟨NS,i*3+2,none⟩=some (.slice la t.2.length lc):=(World.cell?_of_block (a:=⟨NS,i*3+2,none⟩) (hG1.below.block NS hNS)).trans s2
 have hNS1:NS<w1.heap.size:=by omega
 have HV8:=Lib.hid hv8
 have HG1:=Lib.hid hG1
 clear hv8 hg8 hL1 x0 x1 x2 x3 s1 s2
 go_wp2_with (at_builtin;refine wpList_append_ints rfl _ _ rfl (A:=[]) (base:=w1.heap.size) rfl rfl (World.ownsRow_nil _ _ _ _) (HL.out _ HG1.out) ⟨by simp,h2k⟩ (by simp) ?_)
 intro v9 w2 hv9 hg9
 obtain⟨a9,k9,rfl⟩:=row_form'' hv9
 have hL2:w1.Grows w2:=World.Grows.of_below ⟨hg9.os,hg9.tape,hg9.output,hg9.size,fun k hk=>hg9.block k hk (by simp [Value.ownBlock])⟩
 have hG2:w.Grows w2:=World.Grows.trans' HG1.out hL2
 have hz2:w1.heap.size≤w2.heap.size:=hg9.size
 replace xx0:=(World.cell?_of_block (a:=⟨w.heap.size+1,0,none⟩) (hL2.below.block _ (by show w.heap.size+1<w1.heap.size;omega))).trans xx0
 replace xx1:=(World.cell?_of_block (a:=⟨w.heap.size+1,1,none⟩) (hL2.below.block _ (by show w.heap.size+1<w1.heap.size;omega))).trans xx1
 have hX2:w.heap.size+1<w2.heap.size:=by omega
 have hNS2:NS<w2.heap.size:=by omega
 have r8:w2.ownsRow (w.heap.size+2) 3 1 (.slice a8 t.1.length k8) t.1.length (t.1.map (Value.int .i64)):=Mods.row (P:=fun _=>False) (.grows hL2) HV8.out fun _ _ e=>e
 have r9:w2.ownsRow (w.heap.size+2) 3 1 (.slice a9 t.2.length k9) t.2.length (t.2.map (Value.int .i64)):=own_lower hv9 hz1
 have hb8:∀b,(Value.slice a8 t.1.length k8).ownBlock=some b→w.heap.size+2≤b∧b<w1.heap.size:=fun b e=>HV8.out.lt b e
 have hb9:∀b,(Value.slice a9 t.2.length k9).ownBlock=some b→w1.heap.size≤b:=fun b e=>(hv9.lt b e).1
 have HR8:=Lib.hid r8
 have HR9:=Lib.hid r9
 have HB8:=Lib.hid hb8
 have HB9:=Lib.hid hb9
 have HSEP:Hid (∀b,w.heap.size≤b→SepB T Rl b):=Lib.hid (fun b hb k u hu e=>by
  have:=((HW.out.row k u hu).2.1.lt b e).2
  omega)
 have HG2:=Lib.hid hG2
 have HTT:=Lib.hid hT
 have HX:=Lib.hid hx
 have HMID:Hid (∀p W,w2.Grows W→0≤p→x.op≠21→x.op≠22→appB x t=some (if p=0 then t.1 else t.1++[p],t.2)→StMid l.length NS sl.length W0 T t x (.slice a8 t.1.length k8) (.slice a9 t.2.length k9) (.int .i64 p) W):=Lib.hid (fun p W hg hp h21 h22 ha=>
  ⟨t.1,t.2,p,T,Rs,Rl,w.heap.size+2,rfl,hp,h21,Mods.row (P:=fun _=>False) (.grows hg) HR8.out fun _ _ e=>e,Mods.row (P:=fun _=>False) (.grows hg) HR9.out fun _ _ e=>e,by have:=hg.below.size;omega,by omega,ha,.inl ⟨h22,rfl⟩,HW.out.grows (World.Grows.trans' HG2.out hg),fun b e=>HSEP.out b (by have:=(HB8.out b e).1;omega),fun b e=>HSEP.out b (by have:=HB9.out b e;omega),fun b e q=>by
   have q1:=(HB8.out b e).2
   have q2:=HB9.out b q
   omega,H56.out.2.2.1,H56.out.2.2.2,H56.out.1,H56.out.2.1,fun b e=>(HB8.out b e).1,fun b e=>by have:=HB9.out b e;omega,fun _ b j u e hu=>⟨fun e2=>by have:=((HW.out.row j u hu).1.lt b e2).2;have:=(HB8.out b e).1;omega,fun e2=>by have:=((HW.out.row j u hu).2.1.lt b e2).2;have:=(HB8.out b e).1;omega⟩⟩)
 have HNO:Hid (∀W,w2.Grows W→appB x t=none→StpP l.length NS sl.length W0 T x i (.returned (.bool false)) W):=Lib.hid (fun W hg ha=>⟨false,rfl,HW.out.lo.trans ((World.Grows.trans' HG2.out hg).below.mono (by omega)),.inl ⟨rfl,rndB_no HTT.out ha⟩⟩)
 clear r8 r9 hb8 hb9 hv9 hg9 hL2 hG2 hG1 hT hx t2
 go_upto_block 0 with fail
 go_cut [8,9,11,12,13]from 14 (fun v8 v9 v11 _ _ wx=>StMid l.length NS sl.length W0 T t x v8 v9 v11 wx)
 case first=>
  by_cases o1:x.op=1
  ·have q1:(x.op==1)=true:=by simp [o1]
   have q2:(x.op==2)=false:=by simp [o1]
   have q3:(x.op==3)=false:=by simp [o1]
   have q5:(x.op==5)=false:=by simp [o1]
   have q23:(x.op==23)=false:=by simp [o1]
   have q24:(x.op==24)=false:=by simp [o1]
   have q4:(x.op==4)=false:=by simp [o1]
   have q21:(x.op==21)=false:=by simp [o1]
   have q22:(x.op==22)=false:=by simp [o1]
   have hf:=wf_lit HX.out o1
   have HF:=Lib.hid hf
   have HO:=Lib.hid o1
   clear o1 hf
   go_wp2_with fail
   go_meet
   exact HMID.out x.a _ growsR (by have:=HF.out;omega) (by have:=HO.out;omega) (by have:=HO.out;omega) (by rw [appB_1 HO.out,if_neg (by have:=HF.out;omega)])
  have hrest:=wf_rest HX.out o1
  by_cases o2:x.op=2
  ·have q1:(x.op==1)=false:=by simp [o2]
   have q2:(x.op==2)=true:=by simp [o2]
   have q3:(x.op==3)=false:=by simp [o2]
   have q5:(x.op==5)=false:=by simp [o2]
   have q23:(x.op==23)=false:=by simp [o2]
   have q24:(x.op==24)=false:=by simp [o2]
   have q4:(x.op==4)=false:=by simp [o2]
   have q21:(x.op==21)=false:=by simp [o2]
   have q22:(x.op==22)=false:=by simp [o2]
   have ha:=hrest.2.1 o2
   have HI:=Lib.hid (fun w=>inputDim_any x.a w)
   unfold idmP at HI
   rw [decide_eq_true ha,show idmF x.a=inDs.getD x.a.toNat 0 from by unfold idmF;rw [if_pos ha]]at HI
   have HD:=Lib.hid (inDs_rng (k:=x.a.toNat) (by omega))
   have HO:=Lib.hid o2
   have HAB:=Lib.hid (appB_2 (s:=t) o2)
   obtain⟨p,hp⟩:∃p,inDs.getD x.a.toNat 0=p:=⟨_,rfl⟩
   rw [hp]at HI HD HAB
   clear o1 o2 hrest ha hp
   go_wp2_with (go_at_call 96;refine(HI.out _).mono ?_;rintro e' w' ⟨rfl,bs,d,rfl⟩)
   go_meet
   exact HMID.out p _ growsR (by have:=HD.out;omega) (by have:=HO.out;omega) (by have:=HO.out;omega) (by rw [HAB.out,if_neg (by have:=HD.out;omega)])
  by_cases o3:x.op=3
  ·have q1:(x.op==1)=false:=by simp [o3]
   have q2:(x.op==2)=false:=by simp [o3]
   have q3:(x.op==3)=true:=by simp [o3]
   have q5:(x.op==5)=false:=by simp [o3]
   have q23:(x.op==23)=false:=by simp [o3]
   have q24:(x.op==24)=false:=by simp [o3]
   have q4:(x.op==4)=false:=by simp [o3]
   have q21:(x.op==21)=false:=by simp [o3]
   have q22:(x.op==22)=false:=by simp [o3]
   have ha:=hrest.2.2.1 (.inl o3)
   obtain⟨k,hk⟩:∃k:Nat,x.a=(k:Int):=⟨x.a.toNat,by omega⟩
   have hk2:k<t.2.length:=by have:=H56.out.2.2.2;omega
   obtain⟨a9',k9',h9,hg9⟩:=row_slice HR9.out
   obtain⟨rfl,rfl⟩:a9=a9'∧k9=k9':=by simpa using h9
   rcases hg9 with h0|⟨g9,rfl,hg9,c9⟩
   ·omega
   have ck:=c9 k hk2
   have dk:(k:Int)<(t.2.length:Int):=by omega
   have dk0:(0:Int)≤(k:Int):=by omega
   rw [hk]at xx1
   have HAB:=appB_3 (s:=t) o3
   rw [show x.a.toNat=k by omega]at HAB
   have HP0:Hid (0≤t.2.getD k 0):=Lib.hid (H56.out.2.1 _ (by rw [List.getD_eq_getElem?_getD,List.getElem?_eq_getElem hk2];exact List.getElem_mem _))
   have HO:=Lib.hid o3
   obtain⟨p,hp⟩:∃p,t.2.getD k 0=p:=⟨_,rfl⟩
   rw [hp]at HAB HP0 ck
   clear o1 o2 o3 hrest ha hp h9 hk c9 hk2
   by_cases hp0:p=0
   ·have HN:=Lib.hid (show appB x t=none by rw [HAB,if_pos hp0])
    subst hp0
    clear HAB
    go_wp2_with fail
    go_returns
    exact HNO.out _ growsR HN.out
   ·have hpe:(p==0)=false:=by simpa using hp0
    rw [if_neg hp0]at HAB
    have HAC:=Lib.hid HAB
    have HPN:=Lib.hid hp0
    clear HAB hp0
    go_wp2_with fail
    go_meet
    exact HMID.out p _ growsR HP0.out (by have:=HO.out;omega) (by have:=HO.out;omega) (by rw [HAC.out,if_neg HPN.out])
  by_cases o5:x.op=5
  ·have q1:(x.op==1)=false:=by simp [o5]
   have q2:(x.op==2)=false:=by simp [o5]
   have q3:(x.op==3)=false:=by simp [o5]
   have q5:(x.op==5)=true:=by simp [o5]
   have q23:(x.op==23)=false:=by simp [o5]
   have q24:(x.op==24)=false:=by simp [o5]
   have q4:(x.op==4)=false:=by simp [o5]
   have q21:(x.op==21)=false:=by simp [o5]
   have q22:(x.op==22)=false:=by simp [o5]
   have HO:=Lib.hid o5
   clear o1 o2 o3 o5 hrest
   go_wp2_with fail
   go_meet
   exact HMID.out 4 _ growsR (by omega) (by have:=HO.out;omega) (by have:=HO.out;omega) (by rw [appB_5 HO.out,if_neg (by omega)])
  by_cases o23:x.op=23∨x.op=24
  ·have HO:=Lib.hid o23
   clear o1 o2 o3 o5 hrest
   rcases o23 with o23|o23
   focus
    have q1:(x.op==1)=false:=by simp [o23]
    have q2:(x.op==2)=false:=by simp [o23]
    have q3:(x.op==3)=false:=by simp [o23]
    have q5:(x.op==5)=false:=by simp [o23]
    have q23:(x.op==23)=true:=by simp [o23]
    have q24:(x.op==24)=false:=by simp [o23]
   rotate_left
   focus
    have q1:(x.op==1)=false:=by simp [o23]
    have q2:(x.op==2)=false:=by simp [o23]
    have q3:(x.op==3)=false:=by simp [o23]
    have q5:(x.op==5)=false:=by simp [o23]
    have q23:(x.op==23)=false:=by simp [o23]
    have q24:(x.op==24)=true:=by simp [o23]
   rotate_left
   all_goals
    have q4:(x.op==4)=false:=by simp [o23]
    have q21:(x.op==21)=false:=by simp [o23]
    have q22:(x.op==22)=false:=by simp [o23]
    clear o23
    go_wp2_with fail
    go_meet
    exact HMID.out 1 _ growsR (by omega) (by have:=HO.out;omega) (by have:=HO.out;omega) (by rw [appB_23 HO.out,if_neg (by omega)])
  by_cases he:t.1= []∧(x.op=4∨x.op=22)
  ·have hl0:((t.1.length:Nat):Int)<1:=by rw [he.1];simp
   have HN:Hid (appB x t=none):=Lib.hid (by
    rcases he.2 with o|o
    ·rw [appB_4 o,if_pos he.1]
    ·rw [appB_22 o,if_pos (.inl he.1)])
   rcases he.2 with o|o
   ·have q1:(x.op==1)=false:=by simp [o]
    have q2:(x.op==2)=false:=by simp [o]
    have q3:(x.op==3)=false:=by simp [o]
    have q5:(x.op==5)=false:=by simp [o]
    have q23:(x.op==23)=false:=by simp [o]
    have q24:(x.op==24)=false:=by simp [o]
    have q4:(x.op==4)=true:=by simp [o]
    have q21:(x.op==21)=false:=by simp [o]
    have q22:(x.op==22)=false:=by simp [o]
    clear he o o1 o2 o3 o5 o23 hrest
    go_wp2_with fail
    go_returns
    exact HNO.out _ growsR HN.out
   ·have q1:(x.op==1)=false:=by simp [o]
    have q2:(x.op==2)=false:=by simp [o]
    have q3:(x.op==3)=false:=by simp [o]
    have q5:(x.op==5)=false:=by simp [o]
    have q23:(x.op==23)=false:=by simp [o]
    have q24:(x.op==24)=false:=by simp [o]
    have q4:(x.op==4)=false:=by simp [o]
    have q21:(x.op==21)=false:=by simp [o]
    have q22:(x.op==22)=true:=by simp [o]
    clear he o o1 o2 o3 o5 o23 hrest
    go_wp2_with fail
    go_returns
    exact HNO.out _ growsR HN.out
  by_cases o4:x.op=4
  ·have hne:t.1≠[]:=fun e=>he ⟨e,.inl o4⟩
   have q1:(x.op==1)=false:=by simp [o4]
   have q2:(x.op==2)=false:=by simp [o4]
   have q3:(x.op==3)=false:=by simp [o4]
   have q5:(x.op==5)=false:=by simp [o4]
   have q23:(x.op==23)=false:=by simp [o4]
   have q24:(x.op==24)=false:=by simp [o4]
   have q4:(x.op==4)=true:=by simp [o4]
   have q21:(x.op==21)=false:=by simp [o4]
   have q22:(x.op==22)=false:=by simp [o4]
   have ha:=hrest.2.2.1 (.inr o4)
   have HAB:=Lib.hid (appB_4 (s:=t) o4)
   rw [if_neg hne]at HAB
   obtain⟨k,hk⟩:∃k:Nat,x.a=(k:Int):=⟨x.a.toNat,by omega⟩
   rw [show x.a.toNat=k by omega]at HAB
   have HO:=Lib.hid o4
   have hk2:k<t.2.length:=by have:=H56.out.2.2.2;omega
   obtain⟨q,hq⟩:∃q,t.1.length=q+1:=⟨t.1.length-1,by have:t.1.length≠0:=fun e=>hne (List.eq_nil_of_length_eq_zero e);omega⟩
   have hqi:((t.1.length:Nat):Int)-1=(q:Int):=by omega
   have hqq:IntKind.i64.wrap (q:Int)=(q:Int):=IntWalk.i64_in _ (by omega)
   have hq3:(q:Int)<(q:Int)+1:=by omega
   have hqw:IntKind.i64.wrap (((t.1.length:Nat):Int)-1)=(q:Int):=by rw [hqi];exact IntWalk.i64_in _ (by omega)
   have hq1:¬((t.1.length:Nat):Int)<1:=by omega
   have hq2:(q:Int)<((t.1.length:Nat):Int):=by omega
   have hq0:(0:Int)≤(q:Int):=by omega
   obtain⟨a8',k8',h8,hg8⟩:=row_slice HR8.out
   obtain⟨rfl,rfl⟩:a8=a8'∧k8=k8':=by simpa using h8
   rcases hg8 with h0|⟨g8,rfl,hg8,c8⟩
   ·omega
   have c8q:=c8 q (by omega)
   have hlast:t.1.getD q 0=t.1.getLastD 0:=by
    have e:t.1.length-1=q:=by omega
    rw [List.getLastD_eq_getLast?,List.getLast?_eq_getElem?,e,List.getD_eq_getElem?_getD]
   rw [hlast]at c8q
   have hcap8:q≤k8:=by
    rcases row_frm HR8.out with ⟨e,-⟩|⟨g,cap,e,-,-,hc⟩
    ·simp at e
    ·obtain⟨-,rfl⟩:_∧k8=cap:=by simpa using e
     omega
   have hdl:t.1.take q=t.1.dropLast:=by rw [List.dropLast_eq_take,hq,Nat.add_sub_cancel]
   clear h8 c8 hlast hq hqi
   obtain⟨a9',k9',h9,hg9⟩:=row_slice HR9.out
   obtain⟨rfl,rfl⟩:a9=a9'∧k9=k9':=by simpa using h9
   rcases hg9 with h0|⟨g9,rfl,hg9,c9⟩
   ·omega
   have ck:=c9 k hk2
   have f9:w2.frozen? ⟨g9,k,none⟩=false:=HR9.out.frozenAt k
   have dk:(k:Int)<(t.2.length:Int):=by omega
   have dk0:(0:Int)≤(k:Int):=by omega
   rw [hk]at xx1
   have hgg:w1.heap.size≤g9:=HB9.out g9 rfl
   have hg8b:=HB8.out g8 rfl
   have HSET:Hid (∀W',(w2.setCell ⟨g9,k,none⟩ (.int .i64 (t.1.getLastD 0))).Grows W'→StMid l.length NS sl.length W0 T t x (.slice (some ⟨g8,0,none⟩) q k8) (.slice (some ⟨g9,0,none⟩) t.2.length k9) (.int .i64 0) W'):=Lib.hid (fun W' hg=>by
    have hm:Mods (fun b=>b=g9) w2 (w2.setCell ⟨g9,k,none⟩ (.int .i64 (t.1.getLastD 0))):=Mods.setCell _ _ _ _ rfl
    have hwg:w.Grows W':=World.Grows.trans' (.of_below (HG2.out.below.setCell (p:=⟨g9,k,none⟩) (by show w.heap.size≤g9;omega) _)) hg
    have r8:W'.ownsRow (w.heap.size+2) 3 1 (.slice (some ⟨g8,0,none⟩) q k8) t.1.dropLast.length (t.1.dropLast.map (Value.int .i64)):=by
     have h0:=own_cut (m:=q) HR8.out (by omega)
     rw [hdl]at h0
     exact Mods.row (P:=fun _=>False) (.grows hg) (hm.row h0 fun b hb e=>by
      have:g8=b:=by simpa [Value.ownBlock]using hb
      omega) fun _ _ e=>e
    have r9:W'.ownsRow (w.heap.size+2) 3 1 (.slice (some ⟨g9,0,none⟩) t.2.length k9) (t.2.set k (t.1.getLastD 0)).length ((t.2.set k (t.1.getLastD 0)).map (Value.int .i64)):=by
     rw [List.length_set,List.map_set]
     exact Mods.row (P:=fun _=>False) (.grows hg) (HR9.out.stored k (.int .i64 (t.1.getLastD 0))).1 fun _ _ e=>e
    refine⟨t.1.dropLast,t.2.set k (t.1.getLastD 0),0,T,Rs,Rl,w.heap.size+2,rfl,by omega,by have:=HO.out;omega,r8,r9,by have:=hg.below.size;simp [World.setCell]at this;omega,by omega,by rw [HAB.out,if_pos rfl],.inl ⟨by have:=HO.out;omega,rfl⟩,HW.out.grows hwg,fun b e=>HSEP.out b ?_,fun b e=>HSEP.out b ?_,fun b e e2=>?_,by rw [List.length_dropLast];have:=H56.out.2.2.1;omega,by rw [List.length_set];exact H56.out.2.2.2,fun z hz=>H56.out.1 z (List.dropLast_subset _ hz),fun z hz=>?_,fun b e=>?_,fun b e=>?_,fun h=>absurd rfl h⟩
    ·have:g8=b:=by simpa [Value.ownBlock]using e
     omega
    ·have:g9=b:=by simpa [Value.ownBlock]using e
     omega
    ·have h1:g8=b:=by simpa [Value.ownBlock]using e
     have h2:g9=b:=by simpa [Value.ownBlock]using e2
     omega
    ·rcases List.mem_or_eq_of_mem_set hz with hz|rfl
     ·exact H56.out.2.1 z hz
     ·have:=H56.out.1 _ (last_mem hne);omega
    ·have:g8=b:=by simpa [Value.ownBlock]using e
     omega
    ·have:g9=b:=by simpa [Value.ownBlock]using e
     omega)
   generalize t.1.getLastD 0=z at *
   generalize t.2.getD k 0=z9 at *
   clear he hne ha hk hk2 h9 c9 o4 o1 o2 o3 o5 o23 hrest hgg hg8b hdl
   go_wp2_with fail
   refine TS.begin [9] (World.Grows w2) (by kernel_rfl) (by kernel_rfl) grows_drew0 (fun hS=>?_)
   refine TS.wkB 0 hS ?_
   refine TS.wkB 1 hS ?_
   refine TS.wkB 2 hS ?_
   refine TS.wkB 3 hS ?_
   refine TS.wkB 4 hS ?_
   refine TS.wkB 5 hS ?_
   refine TS.wkB 6 hS ?_
   refine TS.wkB 7 hS ?_
   refine TS.wkB 8 hS ?_
   refine TS.weB 9 ?_
   clear hS
   go_wp2_with fail
   go_meet
   exact HSET.out _ growsR
  by_cases o21:x.op=21
  ·have q1:(x.op==1)=false:=by simp [o21]
   have q2:(x.op==2)=false:=by simp [o21]
   have q3:(x.op==3)=false:=by simp [o21]
   have q5:(x.op==5)=false:=by simp [o21]
   have q23:(x.op==23)=false:=by simp [o21]
   have q24:(x.op==24)=false:=by simp [o21]
   have q4:(x.op==4)=false:=by simp [o21]
   have q21:(x.op==21)=true:=by simp [o21]
   have q22:(x.op==22)=false:=by simp [o21]
   have ha:=hrest.2.2.2.2.1 (.inl o21)
   have hj0:0≤x.a:=by omega
   have hj1:x.a<(l.length:Int)+1:=by omega
   have HMT:=Lib.hid (fun W (hg:w2.Grows W)=>(HW.out.grows (World.Grows.trans' HG2.out hg)).meet (k:=x.a.toNat) (s:=t) (vz:=.slice a8 t.1.length k8) (vl:=.slice a9 t.2.length k9) (by omega) (Mods.row (P:=fun _=>False) (.grows hg) HR8.out fun _ _ e=>e) (Mods.row (P:=fun _=>False) (.grows hg) HR9.out fun _ _ e=>e) H56.out.2.2.1 H56.out.2.2.2 hm H56.out.1 H56.out.2.1 (fun e=>by have:=(HB8.out NS e).1;omega) (fun e=>by have:=HB9.out NS e;omega) (fun b e=>HSEP.out b (by have:=(HB8.out b e).1;omega)) (fun b e=>HSEP.out b (by have:=HB9.out b e;omega)))
   have HRN:=Lib.hid (rndB_21 HTT.out o21)
   clear he o4 o1 o2 o3 o5 o23 hrest ha o21
   go_wp2_with (go_at_call 46;refine(HMT.out _ growsR).mono ?_;rintro e' w3 ⟨bb,rfl,hbl,hsz,-,hcc⟩)
   go_returns
   refine⟨bb,rfl,hbl, ?_⟩
   rcases hcc with ⟨rfl,hp⟩|⟨rfl,T',Rs',Rl',hp,hv,-⟩
   ·exact .inl ⟨rfl,HRN.out.trans hp⟩
   ·exact .inr ⟨rfl,T',Rs',Rl',HRN.out.trans hp,hv⟩
  by_cases o22:x.op=22
  ·have hne:t.1≠[]:=fun e=>he ⟨e,.inr o22⟩
   have q1:(x.op==1)=false:=by simp [o22]
   have q2:(x.op==2)=false:=by simp [o22]
   have q3:(x.op==3)=false:=by simp [o22]
   have q5:(x.op==5)=false:=by simp [o22]
   have q23:(x.op==23)=false:=by simp [o22]
   have q24:(x.op==24)=false:=by simp [o22]
   have q4:(x.op==4)=false:=by simp [o22]
   have q21:(x.op==21)=false:=by simp [o22]
   have q22:(x.op==22)=true:=by simp [o22]
   obtain⟨q,hq⟩:∃q,t.1.length=q+1:=⟨t.1.length-1,by have:t.1.length≠0:=fun e=>hne (List.eq_nil_of_length_eq_zero e);omega⟩
   have hqi:((t.1.length:Nat):Int)-1=(q:Int):=by omega
   have hqq:IntKind.i64.wrap (q:Int)=(q:Int):=IntWalk.i64_in _ (by omega)
   have hq3:(q:Int)<(q:Int)+1:=by omega
   have hqw:IntKind.i64.wrap (((t.1.length:Nat):Int)-1)=(q:Int):=by rw [hqi];exact IntWalk.i64_in _ (by omega)
   have hq1:¬((t.1.length:Nat):Int)<1:=by omega
   have hq2:(q:Int)<((t.1.length:Nat):Int):=by omega
   have hq0:(0:Int)≤(q:Int):=by omega
   obtain⟨a8',k8',h8,hg8⟩:=row_slice HR8.out
   obtain⟨rfl,rfl⟩:a8=a8'∧k8=k8':=by simpa using h8
   rcases hg8 with h0|⟨g8,rfl,hg8,c8⟩
   ·omega
   have c8q:=c8 q (by omega)
   have hlast:t.1.getD q 0=t.1.getLastD 0:=by
    have e:t.1.length-1=q:=by omega
    rw [List.getLastD_eq_getLast?,List.getLast?_eq_getElem?,e,List.getD_eq_getElem?_getD]
   rw [hlast]at c8q
   have hcap8:q≤k8:=by
    rcases row_frm HR8.out with ⟨e,-⟩|⟨g,cap,e,-,-,hc⟩
    ·simp at e
    ·obtain⟨-,rfl⟩:_∧k8=cap:=by simpa using e
     omega
   have hdl:t.1.take q=t.1.dropLast:=by rw [List.dropLast_eq_take,hq,Nat.add_sub_cancel]
   clear h8 c8 hlast hq hqi
   have HO:=Lib.hid o22
   have HAB:=Lib.hid (appB_22 (s:=t) o22)
   by_cases hl1:t.1.getLastD 0=1
   ·rw [if_neg (fun c=>c.elim hne (fun c=>c hl1))]at HAB
    rw [hl1]at c8q
    have ha:=hrest.2.2.2.2.1 (.inr o22)
    have hj0:0≤x.a:=by omega
    have hj1:x.a<(l.length:Int)+1:=by omega
    have r8:=own_cut (m:=q) HR8.out (by omega)
    rw [hdl]at r8
    have hg8b:=HB8.out g8 rfl
    have hs8:∀b,(Value.slice (some ⟨g8,0,none⟩) q k8).ownBlock=some b→g8=b:=fun b e=>by simpa [Value.ownBlock]using e
    have HS8:=Lib.hid hs8
    have HMT:=Lib.hid (fun W (hg:w2.Grows W)=>(HW.out.grows (World.Grows.trans' HG2.out hg)).meet (k:=x.a.toNat) (s:=(t.1.dropLast,t.2)) (vz:=.slice (some ⟨g8,0,none⟩) q k8) (vl:=.slice a9 t.2.length k9) (by omega) (Mods.row (P:=fun _=>False) (.grows hg) r8 fun _ _ e=>e) (Mods.row (P:=fun _=>False) (.grows hg) HR9.out fun _ _ e=>e) (by rw [List.length_dropLast];have:=H56.out.2.2.1;omega) H56.out.2.2.2 hm (fun z hz=>H56.out.1 z (List.dropLast_subset _ hz)) H56.out.2.1 (fun e=>by have:=hs8 NS e;omega) (fun e=>by have:=HB9.out NS e;omega) (fun b e=>HSEP.out b (by have:=hs8 b e;omega)) (fun b e=>HSEP.out b (by have:=HB9.out b e;omega)))
    have HR8':=Lib.hid r8
    have HG8B:=Lib.hid hg8b
    clear he hne o4 o1 o2 o3 o5 o23 o21 hrest ha o22 hl1 r8 hg8b hs8 hdl
    have hw8:g8<w2.heap.size:=(HR8'.out.lt g8 rfl).2
    go_wp2_with fail
    go_at_call 46
    refine(HMT.out _ growsR).mono ?_
    rintro e' w3 ⟨bb,rfl,hbl,hsz,hbk,⟨rfl,hp⟩|⟨rfl,T',Rs',Rl',hp,hv,hsp⟩⟩
    ·have HEN:Hid (∀W,w3.Grows W→StpP l.length NS sl.length W0 T x i (.returned (.bool false)) W):=Lib.hid (fun W hg=>⟨false,rfl,hbl.trans (hg.below.mono (by omega)),.inl ⟨rfl,rndB_22no HTT.out HAB.out HO.out hp⟩⟩)
     clear hbl hbk hp
     go_wp2_with fail
     go_returns
     exact HEN.out _ growsR
    ·have HEN:Hid (∀W,w3.Grows W→StMid l.length NS sl.length W0 T t x (.slice (some ⟨g8,0,none⟩) q k8) (.slice a9 t.2.length k9) (.int .i64 0) W):=Lib.hid (fun W hg=>by
      have hn8:∀b,(Value.slice (some ⟨g8,0,none⟩) q k8).ownBlock=some b→g8=b:=HS8.out
      have rr8:=own_block HR8'.out (w':=w3) (fun b e=>hbk b (by have:=hn8 b e;omega) (by have:=hn8 b e;have:=HG8B.out;omega) (HSEP.out b (by have:=hn8 b e;have:=HG8B.out;omega)))
      have rr9:=own_block HR9.out (w':=w3) (fun b e=>hbk b (HR9.out.lt b e).2 (by have:=HB9.out b e;omega) (HSEP.out b (by have:=HB9.out b e;omega)))
      refine⟨t.1.dropLast,t.2,0,T',Rs',Rl',w.heap.size+2,rfl,by omega,by have:=HO.out;omega,Mods.row (P:=fun _=>False) (.grows hg) rr8 fun _ _ e=>e,Mods.row (P:=fun _=>False) (.grows hg) rr9 fun _ _ e=>e,by have:=hg.below.size;omega,by omega,by rw [HAB.out,if_pos rfl],.inr ⟨HO.out,rfl,hp⟩,hv.grows hg,fun b e=>hsp b ?_ (HSEP.out b ?_),fun b e=>hsp b (HR9.out.lt b e).2 (HSEP.out b (by have:=HB9.out b e;omega)),fun b e e2=>?_,by rw [List.length_dropLast];have:=H56.out.2.2.1;omega,H56.out.2.2.2,fun z hz=>H56.out.1 z (List.dropLast_subset _ hz),H56.out.2.1,fun b e=>?_,fun b e=>by have:=HB9.out b e;omega,fun h=>absurd rfl h⟩
      ·have:=hn8 b e;omega
      ·have:=hn8 b e;have:=HG8B.out;omega
      ·have q1:=hn8 b e
       have q2:=HB9.out b e2
       have:=HG8B.out
       omega
      ·have:=hn8 b e;have:=HG8B.out;omega)
     clear hbl hbk hp hv hsp
     go_wp2_with fail
     go_meet
     exact HEN.out _ growsR
   ·rw [if_pos (.inr hl1)]at HAB
    have hz1:(t.1.getLastD 0 !=1)=true:=by simpa using hl1
    generalize t.1.getLastD 0=z at *
    clear he hne o4 o1 o2 o3 o5 o23 o21 hrest o22 hl1 hdl
    go_wp2_with fail
    go_returns
    exact HNO.out _ growsR HAB.out
  have ho:=hrest.2.2.2.2.2 o2 o3 o4 o5 o21 o22 (fun e=>o23 (.inl e)) (fun e=>o23 (.inr e))
  have HAB:=appB_o (s:=t) (x:=x) ⟨o1,o2,o3,o4,o5,o21,o22,fun e=>o23 (.inl e),fun e=>o23 (.inr e)⟩
  have q1:(x.op==1)=false:=by simp;omega
  have q2:(x.op==2)=false:=by simp;omega
  have q3:(x.op==3)=false:=by simp;omega
  have q5:(x.op==5)=false:=by simp;omega
  have q23:(x.op==23)=false:=by simp;omega
  have q24:(x.op==24)=false:=by simp;omega
  have q4:(x.op==4)=false:=by simp;omega
  have q21:(x.op==21)=false:=by simp;omega
  have q22:(x.op==22)=false:=by simp;omega
  have hop:=opF_rng ho
  have HOP:=Lib.hid (fun w=>oper8_any x.op w)
  have HAR:=Lib.hid (fun w=>Args_any (opF x.op) w)
  rw [args_ari hop]at HAR
  have HO:=Lib.hid (And.intro o21 o22)
  obtain⟨ar,har⟩:∃ar,ariF (opF x.op)=ar:=⟨_,rfl⟩
  have har2:ar=1∨ar=2:=by rw [←har];unfold ariF;split<;>omega
  have harg:argsN (opF x.op)=(ar:Int):=by rw [args_ari hop,har]
  rw [har]at HAR HAB
  obtain⟨op,hope⟩:∃q,opF x.op=q:=⟨_,rfl⟩
  rw [hope]at HOP HAR HAB hop harg
  clear he o4 o1 o2 o3 o5 o23 o21 o22 hrest ho har hope
  by_cases hlt:t.1.length<ar
  ·have d9:((t.1.length:Nat):Int)<(ar:Int):=by omega
   rw [if_pos hlt]at HAB
   have HAC:=Lib.hid HAB
   clear HAB hlt
   go_wp2_with (first
    |(go_at_call 57;refine(HOP.out _).mono ?_;rintro e' w' ⟨rfl,rfl⟩)
    |(go_at_call 58;refine(HAR.out _).mono ?_;rintro e' w' ⟨rfl,rfl⟩))
   go_returns
   exact HNO.out _ growsR HAC.out
  rw [if_neg hlt]at HAB
  obtain⟨m',hm'⟩:∃m',t.1.length-ar=m':=⟨_,rfl⟩
  rw [hm']at HAB
  have hmi:((t.1.length:Nat):Int)-(ar:Int)=(m':Int):=by omega
  have hmw:IntKind.i64.wrap (((t.1.length:Nat):Int)-(ar:Int))=(m':Int):=by rw [hmi];exact IntWalk.i64_in _ (by omega)
  have hmm:IntKind.i64.wrap (m':Int)=(m':Int):=IntWalk.i64_in _ (by omega)
  have d9:¬((t.1.length:Nat):Int)<(ar:Int):=by omega
  have hle:m'≤t.1.length:=by omega
  have hlei:(m':Int)≤((t.1.length:Nat):Int):=by omega
  have hL:t.1.length-m'=ar:=by omega
  obtain⟨a8',k8',h8,hg8⟩:=row_slice HR8.out
  obtain⟨rfl,rfl⟩:a8=a8'∧k8=k8':=by simpa using h8
  rcases hg8 with h0|⟨g8,rfl,hg8,c8⟩
  ·omega
  have hcap8:t.1.length≤k8:=by
   rcases row_frm HR8.out with ⟨e,-⟩|⟨g,cap,e,-,-,hc⟩
   ·simp at e
   ·obtain⟨-,rfl⟩:_∧k8=cap:=by simpa using e
    exact hc
  have hdlen:(t.1.drop m').length=ar:=by rw [List.length_drop];omega
  have HRS:Hid (∀W,w2.Grows W→∀cap,Calls Tryz.prog 98 #[.int .i64 op,.slice (some ⟨g8,m',none⟩) ar cap] W (Res5P (resD op (t.1.drop m')) W)):=Lib.hid (fun W hg cap=>by
   rw [←hdlen]
   refine res5_off op (t.1.drop m') g8 m' cap W hop.1 hop.2 (by rw [hdlen,harg]) (fun z hz=>H56.out.1 z (List.mem_of_mem_drop hz)) (fun k hk=>?_)
   rw [World.cell?_of_block (a:=⟨g8,m'+k,none⟩) (hg.below.block g8 hg8),c8 _ (by rw [List.length_drop]at hk;omega)]
   simp only [List.getD_eq_getElem?_getD,List.getElem?_drop])
  unfold Res5P at HRS
  have HPP:=Lib.hid (fun(h:resD op (t.1.drop m')≠0)=>resD_pos (fun z hz=>H56.out.1 z (List.mem_of_mem_drop hz)) h)
  have r8:=own_cut (m:=m') HR8.out hle
  have HR8':=Lib.hid r8
  have htl:(t.1.take m').length=m':=by rw [List.length_take];omega
  have HTL:=Lib.hid htl
  have hg8b:=HB8.out g8 rfl
  have HG8B:=Lib.hid hg8b
  obtain⟨p,hp⟩:∃p,resD op (t.1.drop m')=p:=⟨_,rfl⟩
  rw [hp]at HRS HPP HAB
  clear h8 c8 hm' hmi hdlen r8 hlt hop harg hp htl hg8b
  by_cases hp0:p=0
  ·rw [if_pos hp0]at HAB
   have HAC:=Lib.hid HAB
   subst hp0
   clear HAB
   go_wp2_with (first
    |(go_at_call 57;refine(HOP.out _).mono ?_;rintro e' w' ⟨rfl,rfl⟩)
    |(go_at_call 58;refine(HAR.out _).mono ?_;rintro e' w' ⟨rfl,rfl⟩)
    |(go_at_call 98;refine(HRS.out _ growsR _).mono ?_;rintro e' w' ⟨rfl,bs,d,rfl⟩))
   go_returns
   exact HNO.out _ growsR HAC.out
  ·rw [if_neg hp0]at HAB
   have HAC:=Lib.hid HAB
   have hpe:(p==0)=false:=by simpa using hp0
   have HP0:=Lib.hid hp0
   have HS8:Hid (∀b,(Value.slice (some ⟨g8,0,none⟩) m' k8).ownBlock=some b→g8=b):=Lib.hid (fun b e=>by simpa [Value.ownBlock]using e)
   have HEN:Hid (∀W,w2.Grows W→StMid l.length NS sl.length W0 T t x (.slice (some ⟨g8,0,none⟩) m' k8) (.slice a9 t.2.length k9) (.int .i64 p) W):=Lib.hid (fun W hg=>by
    refine⟨t.1.take m',t.2,p,T,Rs,Rl,w.heap.size+2,rfl,by have:=HPP.out HP0.out;omega,HO.out.1,Mods.row (P:=fun _=>False) (.grows hg) HR8'.out fun _ _ e=>e,Mods.row (P:=fun _=>False) (.grows hg) HR9.out fun _ _ e=>e,by have:=hg.below.size;omega,by omega,by rw [HAC.out,if_neg HP0.out],.inl ⟨HO.out.2,rfl⟩,HW.out.grows (World.Grows.trans' HG2.out hg),fun b e=>HSEP.out b ?_,fun b e=>HSEP.out b (by have:=HB9.out b e;omega),fun b e e2=>?_,by rw [HTL.out];have:=H56.out.2.2.1;omega,H56.out.2.2.2,fun z hz=>H56.out.1 z (List.mem_of_mem_take hz),H56.out.2.1,fun b e=>?_,fun b e=>by have:=HB9.out b e;omega,fun _ b j u e hu=>⟨fun e2=>?_,fun e2=>?_⟩⟩
    ·have:=HS8.out b e;have:=HG8B.out;omega
    ·have q1:=HS8.out b e
     have q2:=HB9.out b e2
     have:=HG8B.out
     omega
    ·have:=HS8.out b e;have:=HG8B.out;omega
    ·have q1:=HS8.out b e
     have:=((HW.out.row j u hu).1.lt b e2).2
     have:=HG8B.out
     omega
    ·have q1:=HS8.out b e
     have:=((HW.out.row j u hu).2.1.lt b e2).2
     have:=HG8B.out
     omega)
   clear HAB hp0
   go_wp2_with (first
    |(go_at_call 57;refine(HOP.out _).mono ?_;rintro e' w' ⟨rfl,rfl⟩)
    |(go_at_call 58;refine(HAR.out _).mono ?_;rintro e' w' ⟨rfl,rfl⟩)
    |(go_at_call 98;refine(HRS.out _ growsR _).mono ?_;rintro e' w' ⟨rfl,bs,d,rfl⟩))
   go_meet
   exact HEN.out _ growsR
 obtain⟨zs,ls,p,T1,Rs1,Rl1,B,rfl,hp0,h21,r8,r9,hB,hNB,hap,hT1,hv,s8,s9,d89,l24,lm,pz,pl,b8,b9,sA⟩:=hcut
 obtain⟨va8,vk8,rfl⟩:=row_form'' r8
 obtain⟨va9,vk9,rfl⟩:=row_form'' r9
 have HIN:Hid (i+1≤l.length):=Lib.hid (by omega)
 obtain⟨q,hq⟩:∃q,i+1=q:=⟨_,rfl⟩
 have hqw:IntKind.i64.wrap ((i:Int)+1)=(q:Int):=by rw [←hq,IntWalk.i64_in _ (by omega)];rfl
 have hqi:(i:Int)+1=(q:Int):=by omega
 have hqq:IntKind.i64.wrap (q:Int)=(q:Int):=IntWalk.i64_in _ (by omega)
 have hq0:(0:Int)≤(q:Int):=by omega
 have hq1:(q:Int)<(l.length:Int)+1:=by omega
 have HQ:=Lib.hid hq
 by_cases hpz:p=0
 ·rw [if_pos hpz]at hap
  have d24:¬(24:Int)<(zs.length:Int):=by omega
  have HRN:Hid (rndB T x i=putB T1 q (zs,ls)):=Lib.hid (by rw [rndB_end HTT.out hap h21 (hT1.imp id fun h=>⟨h.1,h.2.2⟩),if_neg (by show ¬24<zs.length;omega),hq])
  have HMT:=Lib.hid (fun W (hg:wc.Grows W)=>(hv.grows hg).meet (k:=q) (s:=(zs,ls)) (vz:=.slice va8 zs.length vk8) (vl:=.slice va9 ls.length vk9) (by omega) (Mods.row (P:=fun _=>False) (.grows hg) r8 fun _ _ e=>e) (Mods.row (P:=fun _=>False) (.grows hg) r9 fun _ _ e=>e) l24 lm hm pz pl (fun e=>by have:=b8 NS e;omega) (fun e=>by have:=b9 NS e;omega) s8 s9)
  subst hpz
  clear hap hT1 hv s8 s9 d89 l24 lm pz pl b8 b9 sA r8 r9 hq h21
  go_wp2_with (go_at_call 46;refine(HMT.out _ growsR).mono ?_;rintro e' w3 ⟨bb,rfl,hbl,hsz,-,hcc⟩)
  go_returns
  refine⟨bb,rfl,hbl, ?_⟩
  rcases hcc with ⟨rfl,hp⟩|⟨rfl,T',Rs',Rl',hp,hv,-⟩
  ·exact .inl ⟨rfl,HRN.out.trans hp⟩
  ·exact .inr ⟨rfl,T',Rs',Rl',HRN.out.trans hp,hv⟩
 ·rw [if_neg hpz]at hap
  have hpe:(p==0)=false:=by simpa using hpz
  have hpn:(p !=0)=true:=by simpa using hpz
  obtain⟨i0,hi0,hz0,hz1,hz2⟩:=info_parts infoIM
  have HR8a:=Lib.hid r8
  have HFIN:Hid (∀g cp w3,w3.ownsRow B 3 1 (.slice (some ⟨g,0,none⟩) (zs.length+1) cp) (zs.length+1) (zs.map (Value.int .i64)++[.int .i64 p])→wc.grownBy w3 (Value.slice va8 zs.length vk8).ownBlock→((Value.slice va8 zs.length vk8).ownBlock=some g∨wc.heap.size≤g)→
   (24<zs.length+1→∀W,w3.Grows W→StpP l.length NS sl.length W0 T x i (.returned (.bool false)) W)∧(¬24<zs.length+1→∀W,w3.Grows W→Calls Tryz.prog 46 #[.pointer (some ⟨NS,q*3,none⟩),.slice (some ⟨g,0,none⟩) (zs.length+1) cp,.slice va9 ls.length vk9] W (StpP l.length NS sl.length W0 T x i))):=Lib.hid (fun g cp w3 hown hgr hgg=>by
   have hmd:Mods (fun b=>(Value.slice va8 zs.length vk8).ownBlock=some b) wc w3:=Mods.grown hgr fun _ e=>e
   have hv3:WInv l.length NS sl.length W0 T1 Rs1 Rl1 w3:=hv.mods hmd (fun b e=>by have:=b8 b e;omega) (sA hpz)
   have hlen:(zs++[p]).length=zs.length+1:=by simp
   have hrow:w3.ownsRow B 3 1 (.slice (some ⟨g,0,none⟩) (zs.length+1) cp) (zs++[p]).length ((zs++[p]).map (Value.int .i64)):=by rw [hlen,List.map_append];exact hown
   have r9':=hmd.row r9 (fun b e e2=>d89 b e2 e)
   have hgS:SepB T1 Rl1 g:=by
    rcases hgg with e|e
    ·exact s8 g e
    ·intro k u hu e2
     have:=((hv.row k u hu).2.1.lt g e2).2
     omega
   have hgN:NS<g:=by
    rcases hgg with e|e
    ·have:=b8 g e;omega
    ·have:=hv.sz;omega
   have hend:=rndB_end HTT.out hap h21 (hT1.imp id fun h=>absurd h.2.1 hpz)
   refine⟨fun h24 W hg=>⟨false,rfl,hv3.lo.trans (hg.below.mono (by have:=hv3.sz;omega)),.inl ⟨rfl,by rw [hend,if_pos (by show 24<(zs++[p]).length;omega)]⟩⟩,fun h24 W hg=>?_⟩
   rw [if_neg (by show ¬24<(zs++[p]).length;omega),hq]at hend
   refine((hv3.grows hg).meet (k:=q) (s:=(zs++[p],ls)) (vz:=.slice (some ⟨g,0,none⟩) (zs.length+1) cp) (vl:=.slice va9 ls.length vk9) (by omega) (Mods.row (P:=fun _=>False) (.grows hg) hrow fun _ _ e=>e) (Mods.row (P:=fun _=>False) (.grows hg) r9' fun _ _ e=>e) (by show(zs++[p]).length≤24;omega) lm hm (fun z hz=>?_) pl (fun e=>?_) (fun e=>by have:=b9 NS e;omega) (fun b e=>?_) s9).mono ?_
   ·rcases List.mem_append.1 hz with hz|hz
    ·exact pz z hz
    ·obtain rfl:=List.mem_singleton.1 hz;omega
   ·have:g=NS:=by simpa [Value.ownBlock]using e
    omega
   ·have:g=b:=by simpa [Value.ownBlock]using e
    subst this;exact hgS
   ·rintro e w' ⟨bb,rfl,hbl,hsz,-,hcc⟩
    refine⟨bb,rfl,hbl, ?_⟩
    rcases hcc with ⟨rfl,hp⟩|⟨rfl,T',Rs',Rl',hp,hv',-⟩
    ·exact .inl ⟨rfl,hend.trans hp⟩
    ·exact .inr ⟨rfl,T',Rs',Rl',hend.trans hp,hv'⟩)
  have HB:=Lib.hid hB
  have hzl:zs.length≤24:=l24
  clear hap hT1 hv s8 s9 d89 l24 lm pz pl b8 b9 sA r8 r9 hq h21 hpz
  go_wp2_with (at_builtin;refine wpList_append_lies _ rfl _ _ 22 rfl B 3 i0 _ 1 8 Tryz.underlying22 hi0 hz0 hz1 hz2 rfl (by decide) _ _ _ rfl (HR8a.out.alloc _) ⟨wc.heap.size,0,none⟩ 1 1 [.int .i64 p] rfl rfl ?c1 ?c2 (by decide) ?c3 ?c4 ?c5 (wc.heap.size+1) (by simp) ?_)
  case c1=>(refine news_cells _ [_] _ _ ?_);simp
  case c2=>intro u hu;simp at hu;subst hu;rfl
  case c3=>unfold maxLen;omega
  case c4=>omega
  case c5=>have:=HB.out;simp;omega
  intro g cp w3 hown hgrow hgg hgl
  have hg2:wc.grownBy w3 (Value.slice va8 zs.length vk8).ownBlock:=⟨hgrow.os,hgrow.tape,hgrow.output,by have:=hgrow.size;simp at this;omega,fun k hk hne=>(hgrow.block k (by simp;omega) hne).trans (Below.heap_alloc wc _ k hk)⟩
  obtain⟨hA,hC⟩:=HFIN.out g cp w3 hown hg2 (hgg.imp id fun e=>by omega)
  by_cases h24:24<zs.length+1
  ·have HA:=Lib.hid (hA h24)
   have d25:(24:Int)<(zs.length:Int)+1:=by omega
   clear hA hC hown hgrow hgg hg2 h24
   go_wp2_with fail
   go_returns
   exact HA.out _ growsR
  ·have HC:=Lib.hid (hC h24)
   have d25:¬(24:Int)<(zs.length:Int)+1:=by omega
   clear hA hC hown hgrow hgg hg2 h24
   unfold StpP at HC
   go_wp2_with (go_at_call 46;refine(HC.out _ growsR).mono ?_;rintro e' w4 ⟨bb,rfl,hrest⟩)
   go_returns
   exact⟨bb,rfl,hrest⟩
def rsZ:Array Value:=#[.bool false,.slice none 0 0,.slice none 0 0]
theorem infoRs:(Tryz.prog.info? 123).map (fun i=>(i.zero,i.size,i.bytes))=some (some (.agg rsZ),3,56):=by kernel_rfl
theorem make_rstates(n:Nat)(h:n≤4000)(w:World):(Instr.makeSlice 121 (.int .i64 ((n:Int)+1)) (.int .i64 ((n:Int)+1))).run Tryz.prog w= .ok (.slice (some ⟨w.heap.size,0,none⟩) (n+1) (n+1)) (w.alloc (.cells (madeCells rsZ ((n+1)*3)) 123)):=
 run_make_many 121 123 (.agg rsZ) 3 56 Tryz.underlying121 infoRs n (by omega) (by omega) w
theorem WInv.start(n m:Nat)(W0 W1:World)(h1:W1=W0.alloc (.cells (madeCells rsZ ((n+1)*3)) 123)) :
 WInv n W0.heap.size m W0 (List.replicate (n+1) none) (fun _=>.slice none 0 0) (fun _=>.slice none 0 0) W1:=by
 have hn:∀j,(List.replicate (n+1) (none:Option (List Int × List Int))).getD j none=none:=fun j=>by
  rw [List.getD_eq_getElem?_getD,List.getElem?_replicate];split<;>rfl
 refine⟨by rw [h1];simp,by rw [h1];exact(Below.refl _ _).alloc (Nat.le_refl _) _,by simp,fun j hj=>?_,fun o=>by rw [h1];exact World.frozen?_alloc_at _ _ _ _ rfl,fun j t ht=>(by rw [hn]at ht;cases ht),fun j k t u g _ ht=>(by rw [hn]at ht;cases ht),fun j k t u g ht=>(by rw [hn]at ht;cases ht)⟩
 rw [hn,h1]
 exact made_cells (z:=rsZ) rfl (by decide) (by omega)
theorem VerifyR_any(l:List Ins)(sl:List ByteArray)(vi vs:Value)(w:World)(hI:InsAt w vi l)(hS:SlAt w vs sl) :
 Calls Tryz.prog 22 #[.agg #[vi,vs]] w (VrfP (verB l sl) w):=by
 have hno:∀{l:List Ins} {sl:List ByteArray},formF l sl=false→verB l sl=(0,8):=fun h=>by unfold verB;rw [h,if_neg (by simp)]
 have HNO:=Lib.hid (fun(h:formF l sl=false)=>hno h)
 clear hno
 have HI:=Lib.hid hI
 have HS:=Lib.hid hS
 obtain⟨hl6,ai,ci,rfl,hix⟩:=hI
 have HIX:=Lib.hid hix
 obtain⟨hs6,hmx,as',cs',hcp,rfl,hsx⟩:=hS
 have HSX:=Lib.hid hsx
 have HMX:=Lib.hid hmx
 clear hix hsx hmx hcp
 by_cases h4:4000<l.length
 ·have h4':(4000:Int)<(l.length:Int):=by omega
  have HV:=Lib.hid (HNO.out (formF_long h4))
  clear h4
  go_enter Tryz.func22,Tryz.ntmps22
  go_wp2_with fail
  go_returns
  rw [HV.out]
  exact⟨rfl,growsR⟩
 have h4':¬(4000:Int)<(l.length:Int):=by omega
 by_cases h12:12<sl.length
 ·have h12':(12:Int)<(sl.length:Int):=by omega
  have HV:=Lib.hid (HNO.out (formF_sl (by unfold wordsF;rw [decide_eq_false (by omega)];rfl)))
  clear h4 h12
  go_enter Tryz.func22,Tryz.ntmps22
  go_wp2_with fail
  go_returns
  rw [HV.out]
  exact⟨rfl,growsR⟩
 have h12':¬(12:Int)<(sl.length:Int):=by omega
 have H4:=Lib.hid h4
 have H12:=Lib.hid h12
 clear h4 h12
 go_enter Tryz.func22,Tryz.ntmps22
 go_upto_block 0 with fail
 go_cut [2,3,4,5]from 11 (fun v2 v3 _ _ wx=>v2= .int .i64 0∧v3= .int .i64 0∧WdsK sl sl.length∧World.Grows ((w.alloc (.cells #[.slice ai l.length ci,.slice as' sl.length cs'] 63))) wx)
 case first=>
  go_wp2_with fail
  go_loopw [2,3,4] (fun v2 v3 v4 wr=>∃i:Nat,i≤sl.length∧v4= .int .i64 i∧v2= .int .i64 0∧v3= .int .i64 0∧Hid (WdsK sl i)∧World.Grows ((w.alloc (.cells #[.slice ai l.length ci,.slice as' sl.length cs'] 63))) wr) (fun _ _ v4 _=>sl.length-(intOf v4).toNat)
  case atStart=>exact⟨0,by omega,rfl,rfl,rfl,Lib.hid (WdsK.zero sl),growsR⟩
  case round=>
   obtain⟨i,hi,rfl,rfl,rfl,HK,hg0⟩:=hrel
   have HG0:=Lib.hid hg0
   have hg:w.Grows wr:=World.Grows.trans' growsR hg0
   have HG:=Lib.hid hg
   have cb1:wr.cell? ⟨w.heap.size,1,none⟩=some (.slice as' sl.length cs'):=by
    rw [World.cell?_of_block (hg0.below.block _ (by simp)),World.cell?_alloc_at _ _ _ _ rfl];rfl
   have hwr:w.heap.size<wr.heap.size:=by have:=hg0.below.size;simp at this;omega
   by_cases hlt:i<sl.length
   ·rcases HSX.out with h0|⟨b,off,rfl,hb,hx⟩
    ·omega
    have d1:(i:Int)<(sl.length:Int):=by omega
    have ci':wr.cell? ⟨b,off+i,none⟩=some (.string (sl.getD i ByteArray.empty)):=(World.cell?_of_block (hg.below.block b hb)).trans (hx i hlt)
    have HX:Hid (∀wq,wr.Grows wq→∀j,j<sl.length→wq.cell? ⟨b,off+j,none⟩=some (.string (sl.getD j ByteArray.empty))):=Lib.hid (fun wq hq j hj=>(World.cell?_of_block ((World.Grows.trans' hg hq).below.block b hb)).trans (hx j hj))
    have HIW:=Lib.hid (fun w=>IsWord_any (sl.getD i ByteArray.empty) w (HMX.out _ (by rw [List.getD_eq_getElem?_getD,List.getElem?_eq_getElem hlt];exact List.getElem_mem _)))
    have hbr:b<wr.heap.size:=by have:=hg.below.size;omega
    have HLT:=Lib.hid hlt
    clear hx hg hg0 hlt
    obtain⟨wo,rfl⟩:∃wo,wo=wr:=⟨_,rfl⟩
    go_wp2_with fail
    go_loopw [2,3,5] (fun v2 v3 v5 wr=>∃k:Nat,k≤i∧v5= .int .i64 k∧v2= .int .i64 0∧v3= .int .i64 0∧wo.Grows wr∧Hid (∀j,j<k→sl.getD j ByteArray.empty≠sl.getD i ByteArray.empty)) (fun _ _ v5 _=>i-(intOf v5).toNat)
    case atStart=>exact⟨0,by omega,rfl,rfl,rfl,growsR,Lib.hid (fun j hj=>by omega)⟩
    case round=>
     obtain⟨k,hk,rfl,rfl,rfl,hgq,HD⟩:=hrel
     have HGQ:=Lib.hid hgq
     have cq1:wr.cell? ⟨w.heap.size,1,none⟩=some (.slice (some ⟨b,off,none⟩) sl.length cs'):=(World.cell?_of_block (hgq.below.block _ hwr)).trans cb1
     have hwr:w.heap.size<wr.heap.size:=by have:=hgq.below.size;omega
     have hbq:b<wr.heap.size:=by have:=hgq.below.size;omega
     by_cases hki:k<i
     ·have e1:=HX.out wr hgq k (by have:=HLT.out;omega)
      have e2:=HX.out wr hgq i HLT.out
      have d2:(k:Int)<(i:Int):=by omega
      have d3:(k:Int)<(sl.length:Int):=by omega
      have HKI:=Lib.hid hki
      obtain⟨sk,hsk⟩:∃s,sl.getD k ByteArray.empty=s:=⟨_,rfl⟩
      obtain⟨si,hsi⟩:∃s,sl.getD i ByteArray.empty=s:=⟨_,rfl⟩
      rw [hsk]at e1
      rw [hsi]at e2 HIW
      have HSS:=Lib.hid (And.intro hsk hsi)
      clear hgq hki hsk hsi
      by_cases hss:sk=si
      ·have hcmp:(sk.toList==si.toList)=true:=by rw [hss];simp
       have HV:=Lib.hid (HNO.out (formF_sl (by
        rw [words_bad2 HLT.out (by
         rw [HSS.out.2,←hss,←HSS.out.1]
         have:=HKI.out
         rw [List.mem_iff_getElem?]
         refine⟨k, ?_⟩
         rw [List.getElem?_take,if_pos this,List.getD_eq_getElem?_getD,List.getElem?_eq_getElem (by have:=HLT.out;omega)];rfl)];rfl)))
       clear hss
       go_wp2_with fail
       go_region
       go_wp2_with fail
       go_returns
       rw [HV.out]
       exact⟨rfl,World.Grows.trans' HG.out (World.Grows.trans' HGQ.out growsR)⟩
      ·have hcmp:(sk.toList==si.toList)=false:=by
        rw [Bool.eq_false_iff];intro hc
        have hc':sk.toList=si.toList:=by simpa using hc
        rw [ByteArray.toList_eq,ByteArray.toList_eq]at hc'
        exact hss (ByteArray.ext (Array.toList_inj.1 hc'))
       have HN:Hid (∀j,j<k+1→sl.getD j ByteArray.empty≠sl.getD i ByteArray.empty):=Lib.hid (fun j hj=>by
        by_cases e:j=k
        ·subst e;rw [HSS.out.1,HSS.out.2];exact hss
        ·exact HD.out j (by omega))
       clear hss
       go_wp2_with fail
       go_region
       go_wp2_with fail
       go_roundw
       case rel=>exact⟨k+1,HKI.out,by go_num,rfl,rfl,World.Grows.trans' HGQ.out growsR,HN⟩
       case measure=>simp [intOf];have:=HKI.out;omega
     ·obtain rfl:k=i:=by omega
      have e2:=HX.out wr hgq k HLT.out
      have HNM:Hid (sl.getD k ByteArray.empty∉sl.take k):=Lib.hid (fun h=>by
       rw [List.mem_iff_getElem?]at h
       obtain⟨j,hj⟩:=h
       rw [List.getElem?_take]at hj
       by_cases hjk:j<k
       ·rw [if_pos hjk]at hj
        refine HD.out j hjk ?_
        rw [List.getD_eq_getElem?_getD,hj];rfl
       ·rw [if_neg hjk]at hj;cases hj)
      cases hw:isWord (sl.getD k ByteArray.empty)with
      |false=>
       rw [hw]at HIW
       have HV:=Lib.hid (HNO.out (formF_sl (by rw [words_bad1 HLT.out hw];rfl)))
       generalize sl.getD k ByteArray.empty=s at *
       clear hw hgq hki hk
       go_wp2_with (go_at_call 44;refine(HIW.out _).mono ?_;rintro e' w' ⟨rfl,rfl⟩)
       go_returns
       rw [HV.out]
       exact⟨rfl,World.Grows.trans' HG.out (World.Grows.trans' HGQ.out growsR)⟩
      |true=>
       rw [hw]at HIW
       have HN:=Lib.hid (HK.out.next HLT.out hw HNM.out)
       generalize sl.getD k ByteArray.empty=s at *
       clear hw hgq hki hk
       go_wp2_with (go_at_call 44;refine(HIW.out _).mono ?_;rintro e' w' ⟨rfl,rfl⟩)
       go_roundw
       case rel=>exact⟨k+1,HLT.out,by go_num,rfl,rfl,HN,World.Grows.trans' HG0.out (World.Grows.trans' HGQ.out growsR)⟩
       case measure=>simp [intOf];have:=HLT.out;omega
   ·obtain rfl:i=sl.length:=by omega
    clear hg hg0 hlt hi
    go_wp2_with fail
    go_meet
    exact⟨rfl,rfl,HK.out,HG0.out⟩
 obtain⟨rfl,rfl,hwk,hg0⟩:=hcut
 have HWK:=Lib.hid hwk
 have hg:w.Grows wc:=World.Grows.trans' growsR hg0
 have HG:=Lib.hid hg
 have cb0:wc.cell? ⟨w.heap.size,0,none⟩=some (.slice ai l.length ci):=by
  exact fz19
 have cb1:wc.cell? ⟨w.heap.size,1,none⟩=some (.slice as' sl.length cs'):=by
  exact fz19
 have hwc:w.heap.size<wc.heap.size:=by have:=hg0.below.size;simp at this;omega
 have HOPD:Hid (∀w' k,w.Grows w'→k<l.length→Calls Tryz.prog 45 #[.agg #[.slice ai l.length ci,.slice as' sl.length cs'],.int .i64 k] w' fun e w''=>e= .returned (.bool (wfF sl.length l.length k (l.getD k default)))∧w'.Grows w''):=Lib.hid (fun w' k hg hk=>operand_any l sl _ _ k w' (HI.out.grows hg) (HS.out.grows hg) hk)
 clear hwk hg hg0
 obtain⟨wd,rfl⟩:∃wd,wd=wc:=⟨_,rfl⟩
 go_upto_block 4 with fail
 go_cut [2,3,4,5,7]from 11 (fun v2 v3 _ _ _ wx=>v2= .int .i64 0∧v3= .int .i64 0∧formF l sl=true∧wd.Grows wx)
 case first=>
  go_wp2_with fail
  go_loopw [2,3,7] (fun v2 v3 v7 wr=>∃k:Nat,k≤l.length∧v7= .int .i64 k∧v2= .int .i64 0∧v3= .int .i64 0∧Hid (∀j,j<k→wfF sl.length l.length j (l.getD j default)=true)∧wd.Grows wr∧wd.heap.size<wr.heap.size∧(∀a,wr.frozen? ⟨wd.heap.size,a,none⟩=false)∧∀a,a<12→wr.cell? ⟨wd.heap.size,a,none⟩=some (.bool (decide (0<cntS l k a)))∧cntS l k a≤1) (fun _ _ v7 _=>l.length-(intOf v7).toNat)
  case atStart=>exact⟨0,by omega,rfl,rfl,rfl,Lib.hid (fun j hj=>by omega),growsR,by simp,fun a=>World.frozen?_alloc_at _ _ _ _ rfl,fun a ha=>⟨by
   rw [World.cell?_alloc_at _ _ _ _ rfl,cntS_zero]
   rcases(by omega:a=0∨a=1∨a=2∨a=3∨a=4∨a=5∨a=6∨a=7∨a=8∨a=9∨a=10∨a=11)with rfl|rfl|rfl|rfl|rfl|rfl|rfl|rfl|rfl|rfl|rfl|rfl<;>rfl,by rw [cntS_zero];omega⟩⟩
  case round=>
   obtain⟨k,hk,rfl,rfl,rfl,HK,hg1,hwr1,hfz,hcs⟩:=hrel
   have HFZ:=Lib.hid hfz
   have HG1:=Lib.hid hg1
   have HC:=Lib.hid hcs
   have HWG:Hid (w.Grows wr):=Lib.hid (World.Grows.trans' HG.out hg1)
   have cr0:wr.cell? ⟨w.heap.size,0,none⟩=some (.slice ai l.length ci):=(World.cell?_of_block (hg1.below.block _ hwc)).trans cb0
   have cr1:wr.cell? ⟨w.heap.size,1,none⟩=some (.slice as' sl.length cs'):=(World.cell?_of_block (hg1.below.block _ hwc)).trans cb1
   have hww:w.heap.size<wr.heap.size:=by omega
   clear hfz hcs
   by_cases hlt:k<l.length
   ·rcases HIX.out with h0|⟨b,off,rfl,hb,hx⟩
    ·omega
    have d1:(k:Int)<(l.length:Int):=by omega
    obtain⟨-,x0,x1,-,-⟩:=hx k hlt
    have e:∀o,wr.cell? ⟨b,o,none⟩=w.cell? ⟨b,o,none⟩:=fun o=>World.cell?_of_block (HWG.out.below.block b hb)
    have y0:=(e _).trans x0
    have y1:=(e _).trans x1
    have hbr:b<wr.heap.size:=by have:=HWG.out.below.size;omega
    have HOC:=Lib.hid (fun w' (hg':wr.Grows w')=>HOPD.out w' k (World.Grows.trans' HWG.out hg') hlt)
    have HLT:=Lib.hid hlt
    have HSet:=Lib.hid (fun h=>cntS_set hlt h)
    have HSkip:=Lib.hid (fun h=>cntS_skip hlt h)
    clear e x0 x1 hx hg1 hlt
    cases hw:wfF sl.length l.length k (l.getD k default)with
    |false=>
     rw [hw]at HOC
     have HV:=Lib.hid (HNO.out (formF_wf HLT.out hw))
     clear hw
     go_wp2_with (go_at_call 45;refine(HOC.out _ growsR).mono ?_;rintro e' w' ⟨rfl,bs,d,rfl⟩)
     go_returns
     rw [HV.out]
     exact⟨rfl,World.Grows.trans' HWG.out growsR⟩
    |true=>
     rw [hw]at HOC
     have HN:Hid (∀j,j<k+1→wfF sl.length l.length j (l.getD j default)=true):=Lib.hid (fun j hj=>by
      by_cases e:j=k
      ·subst e;exact hw
      ·exact HK.out j (by omega))
     have HRE:=Lib.hid (fun o4=>(wf_rest hw (by rw [o4];omega)).2.2.1 (.inr o4))
     clear hw
     by_cases h4:(l.getD k default).op=4
     ·obtain⟨n,hn⟩:∃n:Nat,(l.getD k default).a=(n:Int):=⟨(l.getD k default).a.toNat,by have:=(HRE.out h4).1;omega⟩
      have hn12:n<12:=by have:=(HRE.out h4).2;have:=H12.out;omega
      have HST:=Lib.hid (HSet.out h4)
      rw [hn]at y1
      have hnt:(l.getD k default).a.toNat=n:=by omega
      rw [hnt]at HST
      obtain⟨cS,hS1⟩:=HC.out n hn12
      have d2:(0:Int)≤(n:Int):=by omega
      have d3:(n:Int)<12:=by omega
      clear HSet HSkip HRE hnt hn
      obtain⟨c,hc⟩:∃c:Nat,cntS l k n=c:=⟨_,rfl⟩
      rw [hc]at cS hS1
      rw [h4]at y0
      have hfn:=HFZ.out n
      have HCC:=Lib.hid hc
      have HW1:=Lib.hid hwr1
      clear hc h4
      by_cases hc1:0<c
      ·have HV:=Lib.hid (HNO.out (formF_sl (l:=l) (sl:=sl) (by rw [decide_eq_false (not_nodup_of_cnt (l:=l) (k:=k+1) (a:=n) (by rw [HST.out n,if_pos rfl,HCC.out];omega))];simp)))
       rw [decide_eq_true hc1]at cS
       clear hc1
       go_wp2_with (go_at_call 45;refine(HOC.out _ growsR).mono ?_;rintro e' w' ⟨rfl,bs,d,rfl⟩)
       go_returns
       rw [HV.out]
       exact⟨rfl,World.Grows.trans' HWG.out growsR⟩
      ·have HC0:=Lib.hid hc1
       rw [decide_eq_false hc1]at cS
       clear hc1
       go_wp2_with (go_at_call 45;refine(HOC.out _ growsR).mono ?_;rintro e' w' ⟨rfl,bs,d,rfl⟩)
       go_roundw
       case rel=>
        have hs1:(wr.setCell ⟨wd.heap.size,n,none⟩ (.bool true)).heap.size=wr.heap.size:=by simp [World.setCell]
        refine⟨k+1,HLT.out,by go_num,rfl,rfl,HN,.of_below ((HG1.out.below.setCell (Nat.le_refl _) _).grow (by rw [hs1];omega) _ _),by simp [World.setCell];omega,fun a=>?_,fun a ha=>?_⟩
        ·rw [World.frozen?_grow _ _ _ (by rw [hs1];exact hwr1),World.frozen?_setCell];exact HFZ.out a
        ·rw [World.cell?_grow _ _ _ (by rw [hs1];exact hwr1),HST.out a]
         by_cases han:n=a
         ·subst han
          rw [World.cell?_setCell_same _ _ _ cS,if_pos rfl,HCC.out]
          exact⟨by simp,by have:=HC0.out;omega⟩
         ·rw [World.cell?_setCell_other _ _ _ _ (by simpa using han),if_neg han]
          exact HC.out a ha
       case measure=>simp [intOf];have:=HLT.out;omega
     ·have h4':((l.getD k default).op==4)=false:=by simpa using h4
      have HN4:=Lib.hid h4
      obtain⟨x,hx⟩:∃x,l.getD k default=x:=⟨_,rfl⟩
      rw [hx]at y0 y1 h4'
      clear h4 hx
      go_wp2_with (go_at_call 45;refine(HOC.out _ growsR).mono ?_;rintro e' w' ⟨rfl,bs,d,rfl⟩)
      go_roundw
      case rel=>exact⟨k+1,HLT.out,by go_num,rfl,rfl,HN,World.Grows.trans' HG1.out growsR,by simp;omega,fun a=>(World.frozen?_of_block (World.Grows.below (growsR:wr.Grows _)|>.block _ hwr1)).trans (HFZ.out a),fun a ha=>by
       rw [HSkip.out HN4.out]
       exact⟨by rw [World.cell?_of_block (World.Grows.below (growsR:wr.Grows _)|>.block _ hwr1)];exact(HC.out a ha).1,(HC.out a ha).2⟩⟩
      case measure=>simp [intOf];have:=HLT.out;omega
   ·obtain rfl:k=l.length:=by omega
    have HFY:Hid (formF l sl=true):=Lib.hid (formF_yes (by have:=H4.out;omega) HK.out (by
     rw [words_good HWK.out h12',decide_eq_true (nodup_of_cnt fun a=>by
      rcases Nat.lt_or_ge a 12 with h|h
      ·exact(HC.out a h).2
      ·rw [cntS_out (fun i hi ho=>by
        have h1:=(wf_rest (HK.out i hi) (by rw [ho];omega)).2.2.1 (.inr ho)
        have:=H12.out
        omega) h];omega)];rfl))
    clear hlt hk hg1
    go_wp2_with fail
    go_meet
    exact⟨rfl,rfl,HFY.out,HG1.out⟩
 obtain⟨rfl,rfl,hform,hg1⟩:=hcut
 have HVB:Hid (verB l sl=goB l 0 (some ([],List.replicate sl.length 0)::List.replicate l.length none) 0):=Lib.hid (by unfold verB;rw [if_pos hform])
 have HG1:Hid (w.Grows wc):=Lib.hid (World.Grows.trans' HG.out hg1)
 have cc0:wc.cell? ⟨w.heap.size,0,none⟩=some (.slice ai l.length ci):=(World.cell?_of_block (hg1.below.block _ hwc)).trans cb0
 have cc1:wc.cell? ⟨w.heap.size,1,none⟩=some (.slice as' sl.length cs'):=(World.cell?_of_block (hg1.below.block _ hwc)).trans cb1
 have hwx:w.heap.size<wc.heap.size:=by have:=hg1.below.size;omega
 have hmk:=make_rstates l.length (by have:=H4.out;omega)
 have HFM:=Lib.hid hform
 clear hg1 hform cb0 cb1
 go_upto_region 24 with fail
 obtain⟨W1,hW1⟩:∃W1,wc.alloc (.cells (madeCells rsZ ((l.length+1)*3)) 123)=W1:=⟨_,rfl⟩
 rw [hW1]
 have HV1:=Lib.hid (WInv.start l.length sl.length wc W1 hW1.symm)
 have hg1:wc.Grows W1:=by rw [←hW1];exact growsR
 have hz1:W1.heap.size=wc.heap.size+1:=by rw [←hW1];simp
 have c10:W1.cell? ⟨w.heap.size,0,none⟩=some (.slice ai l.length ci):=(World.cell?_of_block (hg1.below.block _ hwx)).trans cc0
 have c11:W1.cell? ⟨w.heap.size,1,none⟩=some (.slice as' sl.length cs'):=(World.cell?_of_block (hg1.below.block _ hwx)).trans cc1
 have hw1:w.heap.size<W1.heap.size:=by omega
 have hmi:=run_make_row' (P:=Tryz.prog) 22 3 (.int .i64 0) 8 Tryz.underlying22 infoIM rfl .i64 .i64 sl.length (by omega) (by omega)
 have HMT:Hid (∀W',(W1.alloc (.cells (madeCells #[.int .i64 0] sl.length) 3)).Grows W'→Calls Tryz.prog 46 #[.pointer (some ⟨wc.heap.size,0,none⟩),.slice none 0 0,.slice (some ⟨W1.heap.size,0,none⟩) sl.length sl.length] W' (MtP l.length wc.heap.size sl.length wc (List.replicate (l.length+1) none) (fun _=>.slice none 0 0) 0 ([],List.replicate sl.length 0) W')):=Lib.hid (fun W' hgr=>by
  refine(HV1.out.grows (World.Grows.trans' growsR hgr)).meet (k:=0) (B1:=0) (B2:=0) (s:=([],List.replicate sl.length 0)) (vz:=.slice none 0 0) (vl:=.slice (some ⟨W1.heap.size,0,none⟩) sl.length sl.length) (by omega) (World.ownsRow_nil _ _ _ _) ?_ (by simp) (by simp) (by have:=H12.out;omega) (by simp) (fun z hz=>?_) (by simp [Value.ownBlock]) (fun e=>?_) (fun b e=>by cases e) (fun b e k t ht=>?_)
  ·have h0:=World.ownsRow_lit (base:=0) (e:=3) (size:=1) W1 (madeCells #[.int .i64 0] sl.length) sl.length (by omega) (by unfold maxLen;omega) (by rw [size_madeCells];omega)
   rw [toList_madeCells_one]at h0
   rw [List.map_replicate,List.length_replicate]
   exact Mods.row (P:=fun _=>False) (.grows hgr) h0 fun _ _ e=>e
  ·have:=List.eq_of_mem_replicate hz;omega
  ·have:W1.heap.size=wc.heap.size:=by simpa [Value.ownBlock]using e
   omega
  ·rw [List.getD_eq_getElem?_getD,List.getElem?_replicate]at ht
   split at ht<;>cases ht)
 rw [hz1]at HMT
 have HP0:Hid (putB (List.replicate (l.length+1) none) 0 (([]:List Int),List.replicate sl.length 0)=some (some ([],List.replicate sl.length 0)::List.replicate l.length none)):=Lib.hid (by
  unfold putB
  rw [List.replicate_succ];rfl)
 clear hmk hW1 hg1
 go_wp2_with fail
 refine TS.begin [6] (World.Grows W1) (by kernel_rfl) (by kernel_rfl) grows_drew0 (fun hS=>?_)
 refine TS.wkB 0 hS ?_
 refine TS.wkB 1 hS ?_
 refine TS.wkB 2 hS ?_
 refine TS.wkB 3 hS ?_
 refine TS.wkB 4 hS ?_
 refine TS.one (i:=5) (by kernel_rfl) rfl (fun K1 hK1=>?_)
 have HK1:=Lib.hid hK1
 clear hK1 hS
 dsimp only [List.getElem_toArray,List.getElem_cons_succ,List.getElem_cons_zero]
 go_simp
 refine TS.go HK1.out growsR (fun hS=>?_)
 clear HK1 K1
 (try simp only [nS])
 refine TS.one (i:=6) (by kernel_rfl) rfl (fun K1 hK1=>?_)
 have HK1:=Lib.hid hK1
 clear hK1 hS
 dsimp only [List.getElem_toArray,List.getElem_cons_succ,List.getElem_cons_zero]
 go_simp
 go_at_call 46
 refine(HMT.out _ growsR).mono ?_
 rintro e' w2 ⟨bb,rfl,hbl,hsz2,-,⟨rfl,hp⟩|⟨rfl,T',Rs',Rl',hp,hv,-⟩⟩
 ·rw [HP0.out]at hp;cases hp
 rw [HP0.out]at hp
 obtain rfl:=Option.some.inj hp
 have HV2:=Lib.hid hv
 have c20:w2.cell? ⟨w.heap.size,0,none⟩=some (.slice ai l.length ci):=(World.cell?_of_block (a:=⟨w.heap.size,0,none⟩) (hbl.block _ hwx)).trans cc0
 have c21:w2.cell? ⟨w.heap.size,1,none⟩=some (.slice as' sl.length cs'):=(World.cell?_of_block (a:=⟨w.heap.size,1,none⟩) (hbl.block _ hwx)).trans cc1
 have hw2:w.heap.size<w2.heap.size:=by have:=hv.sz;omega
 refine HK1.out _ _ (fun h=>absurd (by decide) h) (TS.done (by kernel_rfl) ?_)
 clear HK1 K1 hp hbl hv c10 c11 hmi
 go_wp2_with fail
 go_loopw [2,3,9,10] (fun v2 v3 v9 v10 wr=>∃(i:Nat) (T:List (Option (List Int × List Int))) (Rs Rl:Nat→Value) (dep:Nat),i≤l.length∧v10= .int .i64 i∧v9= .int .i64 dep∧v2= .int .i64 0∧v3= .int .i64 0∧WInv l.length wc.heap.size sl.length wc T Rs Rl wr∧Hid (goB (l.drop i) i T dep=verB l sl)∧dep≤24) (fun _ _ _ v10 _=>l.length-(intOf v10).toNat)
 case atStart=>exact⟨0,_,_,_,0,by omega,rfl,rfl,rfl,rfl,HV2.out,Lib.hid (by rw [List.drop_zero,HVB.out]),by omega⟩
 case round=>
  obtain⟨i,T,Rs,Rl,dep,hi,rfl,rfl,rfl,rfl,hv,HGO,hd24⟩:=hrel
  have HVR:=Lib.hid hv
  have HLW:Hid (w.Grows wr):=Lib.hid (World.Grows.trans' HG1.out (.of_below hv.lo))
  have cr0:wr.cell? ⟨w.heap.size,0,none⟩=some (.slice ai l.length ci):=(World.cell?_of_block (a:=⟨w.heap.size,0,none⟩) (hv.lo.block _ hwx)).trans cc0
  have cr1:wr.cell? ⟨w.heap.size,1,none⟩=some (.slice as' sl.length cs'):=(World.cell?_of_block (a:=⟨w.heap.size,1,none⟩) (hv.lo.block _ hwx)).trans cc1
  have hNSr:=hv.sz
  have hwr:w.heap.size<wr.heap.size:=by omega
  by_cases hlt:i<l.length
  ·have d1:(i:Int)<(l.length:Int):=by omega
   have d2:(i:Int)<(l.length:Int)+1:=by omega
   have HLT:=Lib.hid hlt
   have HDR:Hid (l.drop i=l.getD i default::l.drop (i+1)):=Lib.hid (by rw [List.drop_eq_getElem_cons hlt,List.getD_eq_getElem?_getD,List.getElem?_eq_getElem hlt];rfl)
   rw [HDR.out]at HGO
   have hst:=hv.st i (by omega)
   cases hT:T.getD i none with
   |none=>
    rw [hT]at hst
    have z0:=hst 0 _ rfl
    rw [Nat.add_zero]at z0
    have HR:Hid (verB l sl=(0,8)):=Lib.hid (by rw [←HGO.out,goB,hT])
    clear hT hst hv hlt hi
    go_wp2_with fail
    go_returns
    rw [HR.out]
    exact⟨rfl,World.Grows.trans' HLW.out growsR⟩
   |some t=>
    rw [hT]at hst
    obtain⟨r1,r2,r3,r4,-⟩:=hv.row i t hT
    obtain⟨sa,sc,hsa⟩:=row_form'' r1
    have z0:=hst 0 _ rfl
    have z1:=hst 1 _ rfl
    rw [Nat.add_zero]at z0
    rw [hsa]at z1
    have HST:=Lib.hid (fun W (hg:wr.Grows W)=>step_any l sl (.slice ai l.length ci) (.slice as' sl.length cs') i wc.heap.size wc T Rs Rl t W (HI.out.grows (World.Grows.trans' HLW.out hg)) HLT.out (HVR.out.grows hg) (by
     have h1:=HFM.out
     unfold formF at h1
     simp only [Bool.and_eq_true,List.all_eq_true,List.mem_range]at h1
     exact h1.1.2 i HLT.out) (by have:=H12.out;omega) hT ⟨_,_,rfl⟩)
    have HTT:=Lib.hid hT
    have HL24:=Lib.hid r3
    clear hT hst hv hlt hi r1 r2 r3 r4 hsa
    go_wp2_with fail
    go_at_call 47
    refine(HST.out _ growsR).mono ?_
    rintro e' w3 ⟨bb,rfl,hbl,⟨rfl,hr⟩|⟨rfl,T',Rs',Rl',hr,hv'⟩⟩
    ·have HR:Hid (verB l sl=(0,8)):=Lib.hid (by rw [←HGO.out,goB,HTT.out];simp only [hr])
     have HG3:Hid (w.Grows w3):=Lib.hid (World.Grows.trans' HG1.out (.of_below hbl))
     clear hbl hr
     go_wp2_with fail
     go_returns
     rw [HR.out]
     exact⟨rfl,World.Grows.trans' HG3.out growsR⟩
    ·have HGN:Hid (goB (l.drop (i+1)) (i+1) T' (max dep t.1.length)=verB l sl):=Lib.hid (by rw [←HGO.out,goB,HTT.out];simp only [hr])
     have HV3:=Lib.hid hv'
     clear hbl hr hv'
     go_wp2_with fail
     go_roundw
     case rel=>exact⟨i+1,T',Rs',Rl',max dep t.1.length,HLT.out,by go_num,by first|(simp;done)|(simp;omega),rfl,rfl,HV3.out.grows growsR,HGN,by have:=HL24.out;omega⟩
     case measure=>simp [intOf];have:=HLT.out;omega
  ·obtain rfl:i=l.length:=by omega
   have hst:=hv.st l.length (Nat.le_refl _)
   rw [List.drop_length,goB]at HGO
   cases hT:T.getD l.length none with
   |none=>
    rw [hT]at hst HGO
    have z0:=hst 0 _ rfl
    have z1:=hst 1 _ rfl
    rw [Nat.add_zero]at z0
    have HR:Hid (verB l sl=(0,8)):=Lib.hid HGO.out.symm
    clear hT hst hv hlt hi
    go_wp2_with fail
    go_returns
    rw [HR.out]
    exact⟨rfl,World.Grows.trans' HLW.out growsR⟩
   |some t=>
    rw [hT]at hst HGO
    obtain⟨r1,-⟩:=hv.row l.length t hT
    obtain⟨sa,sc,hsa⟩:=row_form'' r1
    have z0:=hst 0 _ rfl
    have z1:=hst 1 _ rfl
    rw [Nat.add_zero]at z0
    rw [hsa]at z1
    by_cases he:t.1= []
    ·have HR:Hid (verB l sl=((dep:Int),0)):=Lib.hid (by rw [←HGO.out];simp only [if_pos he])
     have hl0:t.1.length=0:=by rw [he];rfl
     rw [hl0]at z1
     clear hT hst hv hlt hi r1 hsa he hl0
     go_wp2_with fail
     go_returns
     rw [HR.out]
     exact⟨rfl,World.Grows.trans' HLW.out growsR⟩
    ·have HR:Hid (verB l sl=(0,8)):=Lib.hid (by rw [←HGO.out];simp only [if_neg he])
     have hl0:(0:Int)<(t.1.length:Int):=by
      have:t.1.length≠0:=fun e=>he (List.eq_nil_of_length_eq_zero e)
      omega
     have hl1:0<t.1.length:=by omega
     have hl2:(decide ((0:Int)<(t.1.length:Int)))=true:=decide_eq_true hl0
     clear hT hst hv hlt hi r1 hsa he
     go_wp2_with fail
     go_returns
     rw [HR.out]
     exact⟨rfl,World.Grows.trans' HLW.out growsR⟩
end Go.Proofs.YtaghhncnicbedaaGreatDoor
