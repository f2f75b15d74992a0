import Derived.Test.YteildlpchhlchaaGreatDoorRLayB
import Derived.Test.YteildlpchhlchaaGreatDoorRCodM
set_option linter.all false
set_option maxHeartbeats 16000000
set_option maxRecDepth 1000000
namespace Go.Proofs.YteildlpchhlchaaGreatDoor
open Tryz List
def lastB(n k:Nat):Bool:=decide (k+1=n) || decide (k=4)
def dL(ls:List (List Int))(g:List Int):Nat->List Ins
 |0=>[]
 |k+1=>
  let l:=dL ls g k
  if lastB ls.length k&&decide (0<g.length)then
   let l1:=l++codeF (slK (aD k)) (dZ g (bM ls k) 1) l.length
   let l2:=l1++[⟨22,0,0,0⟩]
   let l3:=l2++codeF (slK (aD k)) (kW ls k).e l2.length
   let l4:=l3++[⟨4,(k:Int),0,0⟩]
   gG l4 l1.length l4.length
  else l++codeF (slK (aD k)) (kW ls k).e l.length++[⟨4,(k:Int),0,0⟩]
theorem EQ(a:List Dfn)(d:Dfn)(i:Nat):jq (a++[d]) i=jq a i++d.code (i+(jq a i).length):=by
 induction a generalizing i with
 |nil=>simp [jq]
 |cons x r ih=>
  rw [cons_append,jq,jq,ih,append_assoc,length_append,Nat.add_assoc]
theorem l8(ls:List (List Int))(g:List Int):∀k,(∀j,j<k->(lastB ls.length j&&decide (0<g.length))=false)->dL ls g k=jq ((List.range k).map (kW ls)) 0
 |0,_=>rfl
 |k+1,h=>by
  have ih:=l8 ls g k (fun j hj=>h j zb);rw [dL];simp only [h k zb];rw [range_succ,map_append,map_singleton,EQ,<-ih];simp only [Bool.false_eq_true,if_false,Nat.zero_add,append_assoc];rfl
theorem nO(ls:List (List Int))(g:List Int):dL ls g (min ls.length 5)=vR ls g:=by
 unfold vR;by_cases h:g= []\/ls= []
 ·rw [if_pos h,<-range_eq_range'];refine l8 ls g _ fun j hj=>?_;rcases h with h|h
  ·subst h;simp
  ·subst h;simp at hj
 ·rw [if_neg h,<-range_eq_range'];have hg:0<g.length:=length_pos_iff.2 fun e=>h (.inl e);have hl:0<ls.length:=length_pos_iff.2 fun e=>h (.inr e);obtain⟨k,hk⟩:∃k,min ls.length 5=k+1:=⟨min ls.length 5-1,by omega⟩;rw [hk,Nat.add_sub_cancel];have hlast:lastB ls.length k=true:=by unfold lastB;simp;omega
  have hP:=l8 ls g k (fun j hj=>by
   have:lastB ls.length j=false:=by unfold lastB;simp;omega
   rw [this];rfl)
  rw [dL,hP];generalize jq ((List.range k).map (kW ls)) 0=P;simp only [hlast,hg,decide_true,Bool.and_self,if_true];unfold LF
  have h2:(P++codeF (slK (aD k)) (dZ g (bM ls k) 1) P.length++[(⟨22,0,0,0⟩:Ins)]).length=P.length+(codeF (slK (aD k)) (dZ g (bM ls k) 1) P.length).length+1:=by
   simp only [length_append,length_singleton]
  rw [h2];generalize codeF (slK (aD k)) (dZ g (bM ls k) 1) P.length=G
  have hd:∀i,jq [kW ls k] i=codeF (slK (aD k)) (kW ls k).e i++[⟨4,(k:Int),0,0⟩]:=fun i=>by
   show(kW ls k).code i++[]=_;rw [append_nil];rfl
  rw [hd];generalize codeF (slK (aD k)) (kW ls k).e (P.length+G.length+1)=D;have key:=rV (P++G) ⟨22,0,0,0⟩ (D++[⟨4,(k:Int),0,0⟩]) ((P++G++[(⟨22,0,0,0⟩:Ins)]++D++[(⟨4,(k:Int),0,0⟩:Ins)]).length:Nat);simp only [append_assoc,cons_append,nil_append]at key ⊢;rw [key]
  congr 4
  simp only [length_append,length_cons,length_nil];omega
open Go.RowKit
def slV(sl:List ByteArray):List Value:=sl.map Value.string
def enV(env:List (ByteArray × Int)):List Value:=env.flatMap fun p=>[.string p.1,.int .i64 p.2]
structure bF(w:World)(base g:Nat)(cI cS vI vS vE:Value)(l:List Ins)(sl:List ByteArray)(env:List (ByteArray × Int))(W:World):Prop where
 gr:w.Grows W
 wg:w.heap.size<=g
 gb:g<base
 bW:base<=W.heap.size
 blk:∃ty,W.heap[g]? =some (.cells #[cI,cS] ty (0,0))
 row:eH base W vI l
 slr:W.ownsRow base 9 1 vS sl.length (slV sl)
 enr:W.ownsRow base 96 2 vE env.length (enV env)
 dIS:∀b,vI.ownBlock=some b->vS.ownBlock≠some b
 dIE:∀b,vI.ownBlock=some b->vE.ownBlock≠some b
 dSE:∀b,vS.ownBlock=some b->vE.ownBlock≠some b
theorem bD{w w':World}{base size n:Nat}{e:TypeId}{v:Value}{xs:List Value}{row:Option Nat}(h:w.ownsRow base e size v n xs)(hg:w.grownBy w' row)(hne:∀b,row=some b->v.ownBlock≠some b):w'.ownsRow base e size v n xs:=
 h.kept hg (by
  cases e1:v.ownBlock with
  |none=>exact .inl rfl
  |some b=>exact .inr fun e2=>hne b e2.symm e1)
theorem kU{w w':World}(hg:w.Grows w')(row:Option Nat):w.grownBy w' row:=⟨hg.below.os,hg.below.tape,hg.below.output,hg.below.size,fun k hk _=>hg.below.block k hk⟩
theorem eB(w:World)(g j:Nat)(u:Value):w.grownBy (w.setCell ⟨g,j,none⟩ u) (some g):=by
 have hB:=Below.setCell (p:=(⟨g,j,none⟩:Addr)) (Below.refl g w) (Nat.le_refl g) u;exact⟨hB.os,hB.tape,hB.output,hB.size,fun k _ hn=>Below.heap_setCell _ _ _ _ (fun e=>hn (by rw [e]))⟩
theorem qK{v v1 u:Value}{W:World}(hat:v1.ownBlock=v.ownBlock\/∃b,v1.ownBlock=some b/\W.heap.size<=b)(hu:∀k,u.ownBlock=some k->k<W.heap.size)(h:∀b,v.ownBlock=some b->u.ownBlock≠some b):∀b,v1.ownBlock=some b->u.ownBlock≠some b:=by
 intro b hb e;rcases hat with e1|⟨b',e1,hb'⟩
 ·exact h b (e1.symm.trans hb) e
 ·rw [e1]at hb;cases hb;have:=hu _ e;omega
theorem kI{v u:Value}(h:∀b,v.ownBlock=some b->u.ownBlock≠some b):∀b,u.ownBlock=some b->v.ownBlock≠some b:=fun b h1 h2=>h b h2 h1
section
variable {w W W' W1 : World} {base g : Nat} {cI cS vI vS vE v1 : Value} {l l1 : List Ins} {sl sl1 : List ByteArray} {env env1 : List (ByteArray × Int)}
theorem bF.grows(h:bF w base g cI cS vI vS vE l sl env W)(hg:W.Grows W'):bF w base g cI cS vI vS vE l sl env W':=by
 obtain⟨ty,hb⟩:=h.blk
 exact⟨h.gr.trans' hg,h.wg,h.gb,Nat.le_trans h.bW hg.below.size,⟨ty,(hg.below.block g (Array.getElem?_eq_some_iff.1 hb).1).trans hb⟩,h.row.grows hg,
  bD h.slr (kU hg none) (fun _ e=>by cases e),bD h.enr (kU hg none) (fun _ e=>by cases e),h.dIS,h.dIE,h.dSE⟩
theorem bF.lay(h:bF w base g cI cS vI vS vE l sl env W)(hx:Ext W W1 vI v1)(hr:eH base W1 v1 l1):bF w base g cI cS v1 vS vE l1 sl env W1:=by
 obtain⟨ty,hb⟩:=h.blk;have hlt:∀k,vI.ownBlock=some k->base<=k:=fun k e=>(h.row.lt k e).1
 exact⟨World.Grows.grown h.gr hx.g (fun k e=>by have:=hlt k e;have:=h.wg;have:=h.gb;omega),h.wg,h.gb,Nat.le_trans h.bW hx.g.size,
  ⟨ty,(hx.g.block g (Array.getElem?_eq_some_iff.1 hb).1 (fun e=>by have:=hlt g e.symm;have:=h.gb;omega)).trans hb⟩,hr,
  bD h.slr hx.g h.dIS,bD h.enr hx.g h.dIE,qK hx.at_ (fun k e=>(h.slr.lt k e).2) h.dIS,qK hx.at_ (fun k e=>(h.enr.lt k e).2) h.dIE,h.dSE⟩
theorem bF.slot(h:bF w base g cI cS vI vS vE l sl env W)(hx:Ext W W1 vS v1)(hr:W1.ownsRow base 9 1 v1 sl1.length (slV sl1)):bF w base g cI cS vI v1 vE l sl1 env W1:=by
 obtain⟨ty,hb⟩:=h.blk;have hlt:∀k,vS.ownBlock=some k->base<=k:=fun k e=>(h.slr.lt k e).1
 exact⟨World.Grows.grown h.gr hx.g (fun k e=>by have:=hlt k e;have:=h.wg;have:=h.gb;omega),h.wg,h.gb,Nat.le_trans h.bW hx.g.size,
  ⟨ty,(hx.g.block g (Array.getElem?_eq_some_iff.1 hb).1 (fun e=>by have:=hlt g e.symm;have:=h.gb;omega)).trans hb⟩,bD h.row hx.g (kI h.dIS),
  hr,bD h.enr hx.g h.dSE,kI (qK hx.at_ (fun k e=>(h.row.lt k e).2) (kI h.dIS)),h.dIE,qK hx.at_ (fun k e=>(h.enr.lt k e).2) h.dSE⟩
theorem bF.bind(h:bF w base g cI cS vI vS vE l sl env W)(hx:Ext W W1 vE v1)(hr:W1.ownsRow base 96 2 v1 env1.length (enV env1)):bF w base g cI cS vI vS v1 l sl env1 W1:=by
 obtain⟨ty,hb⟩:=h.blk;have hlt:∀k,vE.ownBlock=some k->base<=k:=fun k e=>(h.enr.lt k e).1
 exact⟨World.Grows.grown h.gr hx.g (fun k e=>by have:=hlt k e;have:=h.wg;have:=h.gb;omega),h.wg,h.gb,Nat.le_trans h.bW hx.g.size,
  ⟨ty,(hx.g.block g (Array.getElem?_eq_some_iff.1 hb).1 (fun e=>by have:=hlt g e.symm;have:=h.gb;omega)).trans hb⟩,bD h.row hx.g (kI h.dIE),
  bD h.slr hx.g (kI h.dSE),hr,h.dIS,kI (qK hx.at_ (fun k e=>(h.row.lt k e).2) (kI h.dIE)),kI (qK hx.at_ (fun k e=>(h.slr.lt k e).2) (kI h.dSE))⟩
theorem bF.setc(h:bF w base g cI cS vI vS vE l sl env W)(j:Nat)(u:Value){dI dS:Value}(hd:((#[cI,cS]:Array Value).setIfInBounds j u)=#[dI,dS]):bF w base g dI dS vI vS vE l sl env (W.setCell ⟨g,j,none⟩ u):=by
 obtain⟨ty,hb⟩:=h.blk;have hg:=eB W g j u;refine⟨.of_below (h.gr.below.setCell h.wg u),h.wg,h.gb,Nat.le_trans h.bW hg.size,⟨ty, ?_⟩,bD h.row hg ?_,bD h.slr hg ?_,bD h.enr hg ?_,h.dIS,h.dIE,h.dSE⟩
 ·rw [<-hd];exact Go.Joins.block_setCell hb u
 ·rintro b ⟨⟩ e;have:=(h.row.lt _ e).1;have:=h.gb;omega
 ·rintro b ⟨⟩ e;have:=(h.slr.lt _ e).1;have:=h.gb;omega
 ·rintro b ⟨⟩ e;have:=(h.enr.lt _ e).1;have:=h.gb;omega
theorem bF.setI(h:bF w base g cI cS vI vS vE l sl env W)(u:Value):bF w base g u cS vI vS vE l sl env (W.setCell ⟨g,0,none⟩ u):=h.setc 0 u rfl
theorem bF.setS(h:bF w base g cI cS vI vS vE l sl env W)(u:Value):bF w base g cI u vI vS vE l sl env (W.setCell ⟨g,1,none⟩ u):=h.setc 1 u rfl
theorem bF.ins(h:bF w base g cI cS vI vS vE l sl env W)(x:Ins){gg n c H:Nat}(hn:n=l.length+1)(hg:W.Grows W')(hgr:W'.grownBy W1 vI.ownBlock)(ha:vI.ownBlock=some gg\/gg=H)(hH:W.heap.size<=H)
 (ho:W1.ownsRow base 118 4 (.slice (some ⟨gg,0,none⟩) n c) n (aU l++[.int .i64 x.op,.int .i64 x.a,.int .i64 x.n,.int .i64 x.d])):bF w base g cI cS (.slice (some ⟨gg,0,none⟩) n c) vS vE (l++[x]) sl env W1:=by
 subst hn;refine h.lay (Ext.app hg hgr ha hH) ?_;rw [<-iD]at ho;unfold eH;rw [length_append];exact ho
theorem bF.nm(h:bF w base g cI cS vI vS vE l sl env W)(s:ByteArray){gg n c H:Nat}(hn:n=sl.length+1)(hg:W.Grows W')(hgr:W'.grownBy W1 vS.ownBlock)(ha:vS.ownBlock=some gg\/gg=H)(hH:W.heap.size<=H)
 (ho:W1.ownsRow base 9 1 (.slice (some ⟨gg,0,none⟩) n c) n (slV sl++[.string s])):bF w base g cI cS vI (.slice (some ⟨gg,0,none⟩) n c) vE l (sl++[s]) env W1:=by
 subst hn;refine h.slot (Ext.app hg hgr ha hH) ?_;rw [length_append,slV,map_append];exact ho
theorem bF.en(h:bF w base g cI cS vI vS vE l sl env W)(s:ByteArray)(d:Int){gg n c H:Nat}(hn:n=env.length+1)(hg:W.Grows W')(hgr:W'.grownBy W1 vE.ownBlock)(ha:vE.ownBlock=some gg\/gg=H)(hH:W.heap.size<=H)
 (ho:W1.ownsRow base 96 2 (.slice (some ⟨gg,0,none⟩) n c) n (enV env++[.string s,.int .i64 d])):bF w base g cI cS vI vS (.slice (some ⟨gg,0,none⟩) n c) l sl (env++[(s,d)]) W1:=by
 subst hn;refine h.bind (Ext.app hg hgr ha hH) ?_;rw [length_append,enV,flatMap_append];exact ho
theorem bF.patch{gg n c:Nat}(h:bF w base g cI cS (.slice (some ⟨gg,0,none⟩) n c) vS vE l sl env W)(hn:n=l.length)(i:Nat)(hi:i<l.length)(z:Int):bF w base g cI cS (.slice (some ⟨gg,0,none⟩) n c) vS vE (gG l i z) sl env (W.setCell ⟨gg,i*4+1,none⟩ (.int .i64 z)):=by
 subst hn;have hr:=h.row;unfold eH at hr;obtain⟨h1,h2⟩:=hr.stored (i*4+1) (.int .i64 z);refine h.lay ⟨h2,.inl rfl⟩ ?_;unfold eH;rw [<-Cg l i z hi,iN];exact h1
theorem bF.cell{gg n c:Nat}(h:bF w base g cI cS (.slice (some ⟨gg,0,none⟩) n c) vS vE l sl env W)(hn:n=l.length)(i:Nat)(hi:i<l.length):(∃u,W.cell? ⟨gg,i*4+1,none⟩=some u)/\W.frozen? ⟨gg,i*4+1,none⟩=false:=by
 subst hn;have hr:=h.row;exact RI
theorem bF.c0(h:bF w base g cI cS vI vS vE l sl env W):W.cell? ⟨g,0,none⟩=some cI:=by obtain⟨ty,hb⟩:=h.blk;exact cell_of_row W g 0 _ _ _ hb
theorem bF.c1(h:bF w base g cI cS vI vS vE l sl env W):W.cell? ⟨g,1,none⟩=some cS:=by obtain⟨ty,hb⟩:=h.blk;exact cell_of_row W g 1 _ _ _ hb
theorem bF.f(h:bF w base g cI cS vI vS vE l sl env W)(j:Nat):W.frozen? ⟨g,j,none⟩=false:=by obtain⟨ty,hb⟩:=h.blk;exact Go.Joins.unfrozen_of_block hb j
theorem bF.lt(h:bF w base g cI cS vI vS vE l sl env W):g<W.heap.size:=Nat.lt_of_lt_of_le h.gb h.bW
theorem aZ{B size n:Nat}{T:TypeId}{v:Value}{xs:List Value}(h:W.ownsRow B T size v n xs):∃a c,v= .slice a n c/\n<=c/\(n=0\/∃b,a=some ⟨b,0,none⟩/\v.ownBlock=some b/\B<=b/\b<W.heap.size):=by
 obtain⟨-,⟨rfl,h0⟩|⟨g,cap,cur,rfl,hb,hg,hnc,-⟩⟩:=h
 ·exact⟨none,0,by rw [h0],by omega,.inl h0⟩
 ·exact⟨_,_,rfl,hnc,.inr ⟨g,rfl,rfl,hb,(Array.getElem?_eq_some_iff.1 hg).1⟩⟩
theorem Aa(sl:List ByteArray)(i:Nat)(h:i<sl.length):(slV sl)[i]? =some (.string (sl.getD i ByteArray.empty)):=by
 unfold slV;rw [getElem?_map,getElem?_eq_getElem h,getD_eq_getElem?_getD,getElem?_eq_getElem h];rfl
theorem O1(env:List (ByteArray × Int))(i:Nat)(h:i<env.length):(enV env)[i*2]? =some (.string (env.getD i iy).1)/\(enV env)[i*2+1]? =some (.int .i64 (env.getD i iy).2):=by
 induction env generalizing i with
 |nil=>simp at h
 |cons p r ih=>
  have e:enV (p::r)= .string p.1:: .int .i64 p.2::enV r:=rfl;rw [e]
  cases i with
  |zero=>exact⟨rfl,rfl⟩
  |succ i=>
   have:=ih i zy;rw [show(i+1)*2=i*2+1+1 by omega];exact this
theorem bF.slIn{S:Nat->Prop}(h:bF w base g cI cS vI vS vE l sl env W)(hl:sl.length<=1000)(hs:∀s∈sl,s.size<=maxLen)(hS:∀b,vS.ownBlock=some b->S b):SH S W vS sl:=by
 obtain⟨a,c,rfl,hc,h0⟩:=aZ h.slr;refine⟨hl,hs,a,c,hc,rfl,h0.imp id ?_⟩;rintro⟨b,rfl,hb,-,hlt⟩;refine⟨b,0,rfl,hS b hb,hlt,fun i hi=>?_⟩;rw [Nat.zero_add];exact(h.slr.cellAt i zb).trans (Aa sl i hi)
theorem bF.slAt(h:bF w base g cI cS vI vS vE l sl env W)(hl:sl.length<=1000)(hs:∀s∈sl,s.size<=maxLen):kJ W vS sl:=by
 obtain⟨h1,h2,a,c,h3,h4,h5⟩:=h.slIn (S:=fun _=>True) hl hs (fun _ _=>trivial);refine⟨by omega,h2,a,c,h3,h4,h5.imp id ?_⟩;rintro⟨b,off,ha,-,hb,hc⟩;exact⟨b,off,ha,hb,hc⟩
theorem bF.envAt(h:bF w base g cI cS vI vS vE l sl env W)(hl:env.length<=1000)(hs:∀x∈env,x.1.size<=140737488355328):bz W W.heap.size vE env:=by
 obtain⟨a,c,rfl,hc,h0⟩:=aZ h.enr;refine⟨hl,hs,a,c,rfl,h0.imp id ?_⟩;rintro⟨b,rfl,hb,-,hlt⟩;refine⟨b,0,rfl,hlt,by omega,fun i hi=>?_⟩;obtain⟨e1,e2⟩:=O1 env i hi;rw [Nat.zero_add];exact⟨(h.enr.cellAt (i*2) zb).trans e1,(h.enr.cellAt (i*2+1) zb).trans e2⟩
theorem bF.pre(h:bF w base g cI cS vI vS vE l sl env W)(hg:W.Grows W1)(hl:sl.length<=1000)(hs:∀s∈sl,s.size<=maxLen) :
 jF (fun b=>(W.heap.size<=b/\b<W1.heap.size)\/vS.ownBlock=some b) W1.heap.size base W1 vI vS l sl:=by
 have h1:=h.grows hg;refine⟨h1.row, ?_,Nat.le_refl _, ?_,h1.bW,h1.slIn hl hs fun b hb=>.inr hb⟩
 ·rintro b (⟨-,hb⟩|hb)
  ·exact hb
  ·exact(h1.slr.lt b hb).2
 ·rintro b (⟨hb,-⟩|hb) e
  ·have:=(h.row.lt b e.symm).2;omega
  ·exact h.dIS b e.symm hb
theorem bF.layC(h:bF w base g cI cS vI vS vE l sl env W)(hg:W.Grows W1)(hl:sl.length<=1000)(hs:∀s∈sl,s.size<=maxLen){e:Ex}{ve:Value}(hr:aT (fun b=>W.heap.size<=b) W1 e ve)(hf:aM e=true)
 (hn:∀s,jk s e=true->mU s=none->s∈sl) (hlen:l.length+(codeF (slK sl) e l.length).length<=1000000) :
 Calls prog 64 #[vI,exV e ve,vS] W1 fun r w'=>∃a c,r= .returned (.slice a (l++codeF (slK sl) e l.length).length c)/\bF w base g cI cS (.slice a (l++codeF (slK sl) e l.length).length c) vS vE (l++codeF (slK sl) e l.length) sl env w'/\W1.heap.size<=w'.heap.size:=
 (Ca e hf hn _ _ base W1 vI vS ve l (h.pre hg hl hs) (hr.mono' fun b hb hlt=>.inl ⟨hb,hlt⟩) hlen).mono fun r w' ⟨v',he,hr,hx⟩=>by
  obtain⟨a,c,rfl⟩:=hr.form;exact⟨a,c,he,(h.grows hg).lay hx hr,hx.g.size⟩
end
theorem bF.start{w W:World}{g:Nat}{ty:TypeId}(hg:w.Grows W)(hwg:w.heap.size<=g)(hb:W.heap[g]? =some (.cells #[.slice none 0 0,.slice none 0 0] ty (0,0))):bF w W.heap.size g (.slice none 0 0) (.slice none 0 0) (.slice none 0 0) (.slice none 0 0) (.slice none 0 0) [] [] [] W:=
 ⟨hg,hwg,(Array.getElem?_eq_some_iff.1 hb).1,Nat.le_refl _,⟨ty,hb⟩,World.ownsRow_nil _ _ _ _,World.ownsRow_nil _ _ _ _,World.ownsRow_nil _ _ _ _,fun _ h=>zD,fun _ h=>zD,fun _ h=>zD⟩
theorem Ch(l:List Ins)(i:Nat)(h:i<l.length):(aU l)[i*4]? =some (.int .i64 (l.getD i default).op)/\(aU l)[i*4+1]? =some (.int .i64 (l.getD i default).a)/\(aU l)[i*4+2]? =some (.int .i64 (l.getD i default).n)/\(aU l)[i*4+3]? =some (.int .i64 (l.getD i default).d):=by
 induction l generalizing i with
 |nil=>simp at h
 |cons x r ih=>
  have e:aU (x::r)= .int .i64 x.op:: .int .i64 x.a:: .int .i64 x.n:: .int .i64 x.d::aU r:=rfl;rw [e]
  cases i with
  |zero=>exact⟨rfl,rfl,rfl,rfl⟩
  |succ i=>
   have:=ih i zy;rw [show(i+1)*4=i*4+1+1+1+1 by omega];exact this
def dD(l:List Ins):Prop:=∀x∈l,I64 x.n/\I64 x.d
theorem eH.insAt{base:Nat}{w:World}{v:Value}{l:List Ins}(h:eH base w v l)(hl:l.length<=1000000)(hi:dD l):ig w v l:=by
 obtain⟨a,c,rfl,hc,h0⟩:=aZ h;refine⟨hl,a,c,rfl,h0.imp id ?_⟩;rintro⟨b,rfl,-,-,hlt⟩;refine⟨b,0,rfl,hlt,fun i hi2=>?_⟩;obtain⟨e1,e2,e3,e4⟩:=Ch l i hi2;have hr:w.ownsRow base 118 4 (.slice (some ⟨b,0,none⟩) l.length c) l.length (aU l):=h;rw [Nat.zero_add];refine⟨hi _ ?_,(hr.cellAt (i*4) zb).trans e1,(hr.cellAt (i*4+1) zb).trans e2,(hr.cellAt (i*4+2) zb).trans e3,(hr.cellAt (i*4+3) zb).trans e4⟩;rw [getD_eq_getElem?_getD,getElem?_eq_getElem hi2];exact getElem_mem hi2
def PS(w:World)(l:List Ins)(sl:List ByteArray)(e:Ending)(w':World):Prop:=
 ∃a c vS base,e= .returned (.agg #[.slice a l.length c,vS])/\w.Grows w'/\w.heap.size<=base/\base<=w'.heap.size/\eH base w' (.slice a l.length c) l/\w'.ownsRow base 9 1 vS sl.length (slV sl)/\∀b,(Value.slice a l.length c).ownBlock=some b->vS.ownBlock≠some b
theorem sG(i:Nat):∀s∈aD i,s.size<=maxLen:=by
 intro s hs;obtain⟨j,-,rfl⟩:=mem_map.1 hs;rw [vW];decide
theorem iB(i:Nat):(aD i).length=i:=by simp [aD]
theorem N9{l:List (List Int)}{i:Nat}(hi:i<=5){e:Ex}{d:Int}(hf:aM e=true)(ht:aX (bM l i) e=(d,0)):∀s,jk s e=true->mU s=none->s∈aD i:=fun s hs hk=>by
 have h2:=lX e hf (by rw [ht]) hs;obtain⟨j,hj,rfl,-⟩:=IX hi (IE hk) h2;exact mem_map.2 ⟨j,mem_range.2 hj,rfl⟩
theorem mr{l:List (List Int)}{i:Nat}(hi:i<=5)(zs:List Int){dim:Int}(h1:1<=dim)(h4:dim<=4)(κ:ByteArray->Nat)(k:Nat):(codeF κ (dZ zs (bM l i) dim) k).length<=180:=by
 obtain⟨g1,-,-,g4⟩:=mK (l:=l) hi zs h1 h4;have:=CU (κ:=κ) _ g1 k;omega
theorem kH(ls:List (List Int))(g:List Int):∀k,k<=5->(dL ls g k).length<=400*k
 |0,_=>Nat.le_refl _
 |k+1,h=>by
  have ih:=kH ls g k zb;have hb:=iK ls k;have t1:=fun n=>mr (l:=ls) (i:=k) zb g (dim:=1) zb zb (slK (aD k)) n;have t2:=fun n=>mr (l:=ls) (i:=k) zb (ls.getD k []) hb.1 hb.2 (slK (aD k)) n;have e:(kW ls k).e=dZ (ls.getD k []) (bM ls k) (jQ ls k):=rfl;rw [dL,e];dsimp only
  split
  ·rw [iN];simp only [length_append,length_cons,length_nil];have a:=t1 (dL ls g k).length;have b:=t2 ((dL ls g k).length+(codeF (slK (aD k)) (dZ g (bM ls k) 1) (dL ls g k).length).length+(0+1));omega
  ·simp only [length_append,length_cons,length_nil];have b:=t2 (dL ls g k).length;omega
theorem BP(k:Nat):aD k++[eQ k]=aD (k+1):=by unfold aD;rw [range_succ,map_append];rfl
theorem IV(ls:List (List Int))(k:Nat):bM ls k++[(eQ k,jQ ls k)]=bM ls (k+1):=by unfold bM;rw [range_succ,map_append];rfl
theorem kE(ls:List (List Int))(k:Nat):(bM ls k).length=k:=by simp [bM]
theorem IW(ls:List (List Int))(k:Nat):∀x∈bM ls k,x.1.size<=140737488355328:=by
 intro x hx;obtain⟨i,_,rfl⟩:=mem_map.1 hx;show(eQ i).size<=_;rw [vW];omega
structure RdC(ls:List (List Int))(g:List Int)(k:Nat)(Eg Ed:Ex)(L0 L1 L2 L3 L4:List Ins):Prop where
 h1:L1=L0++codeF (slK (aD k)) Eg L0.length
 h2:L2=L1++[⟨22,0,0,0⟩]
 h3:L3=L2++codeF (slK (aD k)) Ed L2.length
 h4:L4=L3++[⟨4,(k:Int),0,0⟩]
 h5:gG L4 L1.length L4.length=dL ls g (k+1)
 n:L0.length<=2000/\L0.length<=L1.length/\L1.length+1=L2.length/\L2.length<=L3.length/\L3.length+1=L4.length/\L4.length<=4000
theorem Kz(ls:List (List Int))(g:List Int)(k:Nat)(hk:k<5)(hl:lastB ls.length k=true)(hg:0<g.length):∃L1 L2 L3 L4,RdC ls g k (dZ g (bM ls k) 1) (kW ls k).e (dL ls g k) L1 L2 L3 L4:=by
 refine⟨_,_,_,_,rfl,rfl,rfl,rfl, ?_, ?_⟩
 ·rw [dL];simp only [hl,hg,decide_true,Bool.and_self,if_true]
 ·have ih:=kH ls g k zb;have hb:=iK ls k;have t1:=mr (l:=ls) (i:=k) zb g (dim:=1) zb zb (slK (aD k)) (dL ls g k).length;have t2:=fun n=>mr (l:=ls) (i:=k) zb (ls.getD k []) hb.1 hb.2 (slK (aD k)) n;have e:(kW ls k).e=dZ (ls.getD k []) (bM ls k) (jQ ls k):=rfl;rw [e];generalize dL ls g k=L0 at *
  suffices h:∀L1 L2 L3 L4:List Ins,L1=L0++codeF (slK (aD k)) (dZ g (bM ls k) 1) L0.length->L2=L1++[⟨22,0,0,0⟩]->L3=L2++codeF (slK (aD k)) (dZ (ls.getD k []) (bM ls k) (jQ ls k)) L2.length->L4=L3++[⟨4,(k:Int),0,0⟩]->
   L0.length<=2000/\L0.length<=L1.length/\L1.length+1=L2.length/\L2.length<=L3.length/\L3.length+1=L4.length/\L4.length<=4000 from h _ _ _ _ rfl rfl rfl rfl
  intro L1 L2 L3 L4 h1 h2 h3 h4;have n1:=congrArg List.length h1;have n2:=congrArg List.length h2;have n3:=congrArg List.length h3;have n4:=congrArg List.length h4;rw [length_append]at n1 n2 n3 n4;rw [length_singleton]at n2 n4;have b:=t2 L2.length;omega
structure RdP(ls:List (List Int))(g:List Int)(k:Nat)(Ed:Ex)(L0 L3 L4:List Ins):Prop where
 h3:L3=L0++codeF (slK (aD k)) Ed L0.length
 h4:L4=L3++[⟨4,(k:Int),0,0⟩]
 h5:L4=dL ls g (k+1)
 n:L0.length<=2000/\L0.length<=L3.length/\L3.length+1=L4.length/\L4.length<=4000
theorem Ky(ls:List (List Int))(g:List Int)(k:Nat)(hk:k<5)(hl:(lastB ls.length k&&decide (0<g.length))=false):∃L3 L4,RdP ls g k (kW ls k).e (dL ls g k) L3 L4:=by
 refine⟨_,_,rfl,rfl, ?_, ?_⟩
 ·rw [dL];simp only [hl,Bool.false_eq_true,if_false]
 ·have ih:=kH ls g k zb;have hb:=iK ls k;have t2:=mr (l:=ls) (i:=k) zb (ls.getD k []) hb.1 hb.2 (slK (aD k)) (dL ls g k).length;have e:(kW ls k).e=dZ (ls.getD k []) (bM ls k) (jQ ls k):=rfl;rw [e];generalize dL ls g k=L0 at *
  suffices h:∀L3 L4:List Ins,L3=L0++codeF (slK (aD k)) (dZ (ls.getD k []) (bM ls k) (jQ ls k)) L0.length->L4=L3++[⟨4,(k:Int),0,0⟩]->
   L0.length<=2000/\L0.length<=L3.length/\L3.length+1=L4.length/\L4.length<=4000 from h _ _ rfl rfl
  intro L3 L4 h3 h4;have n3:=congrArg List.length h3;have n4:=congrArg List.length h4;rw [length_append]at n3 n4;rw [length_singleton]at n4;omega
theorem gL(w:World)(a b c:Int):(convert 186 9 (.slice (some ⟨w.heap.size,0,none⟩) 3 3)).run prog (w.alloc (.cells #[.int .u8 a,.int .u8 b,.int .u8 c] 5))= .ok (.string (strOfNums [a,b,c])) (w.alloc (.cells #[.int .u8 a,.int .u8 b,.int .u8 c] 5)):=by
 refine run_convert_bytes_arg (P:=prog) _ 186 5 underlying186 underlying5 w.heap.size 0 3 3 [a,b,c] rfl (fun i hi=>?_) 9 underlying9;obtain rfl|rfl|rfl:i=0\/i=1\/i=2:=by omega
 ·rw [World.cell?_alloc_at _ _ _ _ rfl];rfl
 ·rw [World.cell?_alloc_at _ _ _ _ rfl];rfl
 ·rw [World.cell?_alloc_at _ _ _ _ rfl];rfl
theorem Es(w:World):Calls prog 65 #[.int .i64 0] w fun e w'=>e= .returned (.string (eQ 0))/\w.Grows w':=by
 have kc:=gL w 112 95 48;exact Kc
theorem Er(w:World):Calls prog 65 #[.int .i64 1] w fun e w'=>e= .returned (.string (eQ 1))/\w.Grows w':=by
 have kc:=gL w 113 95 48;exact Kc
theorem Ep(w:World):Calls prog 65 #[.int .i64 2] w fun e w'=>e= .returned (.string (eQ 2))/\w.Grows w':=by
 have kc:=gL w 114 95 48;exact Kc
theorem Eo(w:World):Calls prog 65 #[.int .i64 3] w fun e w'=>e= .returned (.string (eQ 3))/\w.Grows w':=by
 have kc:=gL w 115 95 48;exact Kc
theorem En(w:World):Calls prog 65 #[.int .i64 4] w fun e w'=>e= .returned (.string (eQ 4))/\w.Grows w':=by
 have kc:=gL w 116 95 48;exact Kc
theorem fH(k:Nat)(w:World)(hk:k<5):Calls prog 65 #[.int .i64 k] w fun e w'=>e= .returned (.string (eQ k))/\w.Grows w':=by
 obtain rfl|rfl|rfl|rfl|rfl:k=0\/k=1\/k=2\/k=3\/k=4:=by omega
 ·exact Es w
 ·exact Er w
 ·exact Ep w
 ·exact Eo w
 ·exact En w
theorem Iz(l:List Ins)(i:Nat)(z:Int)(hi:i<l.length):(aU l).set (i*4+0) (.int .i64 z)=aU (l.set i {l.getD i default with op:=z}):=by
 induction l generalizing i with
 |nil=>simp at hi
 |cons x r ih=>
  cases i with
  |zero=>rfl
  |succ i=>
   have h1:aU (x::r)= [.int .i64 x.op,.int .i64 x.a,.int .i64 x.n,.int .i64 x.d]++aU r:=rfl;have h2:(x::r).set (i+1) {(x::r).getD (i+1) default with op:=z} =x::r.set i {r.getD i default with op:=z}:=rfl;have h3:aU (x::r.set i {r.getD i default with op:=z})= [.int .i64 x.op,.int .i64 x.a,.int .i64 x.n,.int .i64 x.d]++aU (r.set i {r.getD i default with op:=z}):=rfl;rw [h1,h2,h3,show(i+1)*4+0=4+(i*4+0)by omega,set_append_right _ _ ze];show _++(aU r).set (4+(i*4+0)-4) _=_;rw [Nat.add_sub_cancel_left,ih i zG]
theorem wu(l:List Ins)(i:Nat)(z:Int)(hi:i<l.length):(aU l).set (i*4+1) (.int .i64 z)=aU (l.set i {l.getD i default with a:=z}):=by
 induction l generalizing i with
 |nil=>simp at hi
 |cons x r ih=>
  cases i with
  |zero=>rfl
  |succ i=>
   have h1:aU (x::r)= [.int .i64 x.op,.int .i64 x.a,.int .i64 x.n,.int .i64 x.d]++aU r:=rfl;have h2:(x::r).set (i+1) {(x::r).getD (i+1) default with a:=z} =x::r.set i {r.getD i default with a:=z}:=rfl;have h3:aU (x::r.set i {r.getD i default with a:=z})= [.int .i64 x.op,.int .i64 x.a,.int .i64 x.n,.int .i64 x.d]++aU (r.set i {r.getD i default with a:=z}):=rfl;rw [h1,h2,h3,show(i+1)*4+1=4+(i*4+1)by omega,set_append_right _ _ ze];show _++(aU r).set (4+(i*4+1)-4) _=_;rw [Nat.add_sub_cancel_left,ih i zG]
theorem Iy(l:List Ins)(i:Nat)(z:Int)(hi:i<l.length):(aU l).set (i*4+2) (.int .i64 z)=aU (l.set i {l.getD i default with n:=z}):=by
 induction l generalizing i with
 |nil=>simp at hi
 |cons x r ih=>
  cases i with
  |zero=>rfl
  |succ i=>
   have h1:aU (x::r)= [.int .i64 x.op,.int .i64 x.a,.int .i64 x.n,.int .i64 x.d]++aU r:=rfl;have h2:(x::r).set (i+1) {(x::r).getD (i+1) default with n:=z} =x::r.set i {r.getD i default with n:=z}:=rfl;have h3:aU (x::r.set i {r.getD i default with n:=z})= [.int .i64 x.op,.int .i64 x.a,.int .i64 x.n,.int .i64 x.d]++aU (r.set i {r.getD i default with n:=z}):=rfl;rw [h1,h2,h3,show(i+1)*4+2=4+(i*4+2)by omega,set_append_right _ _ ze];show _++(aU r).set (4+(i*4+2)-4) _=_;rw [Nat.add_sub_cancel_left,ih i zG]
theorem Iw(l:List Ins)(i:Nat)(z:Int)(hi:i<l.length):(aU l).set (i*4+3) (.int .i64 z)=aU (l.set i {l.getD i default with d:=z}):=by
 induction l generalizing i with
 |nil=>simp at hi
 |cons x r ih=>
  cases i with
  |zero=>rfl
  |succ i=>
   have h1:aU (x::r)= [.int .i64 x.op,.int .i64 x.a,.int .i64 x.n,.int .i64 x.d]++aU r:=rfl;have h2:(x::r).set (i+1) {(x::r).getD (i+1) default with d:=z} =x::r.set i {r.getD i default with d:=z}:=rfl;have h3:aU (x::r.set i {r.getD i default with d:=z})= [.int .i64 x.op,.int .i64 x.a,.int .i64 x.n,.int .i64 x.d]++aU (r.set i {r.getD i default with d:=z}):=rfl;rw [h1,h2,h3,show(i+1)*4+3=4+(i*4+3)by omega,set_append_right _ _ ze];show _++(aU r).set (4+(i*4+3)-4) _=_;rw [Nat.add_sub_cancel_left,ih i zG]
theorem pU(l:List Ins)(k:Nat):aU (l.take k)=(aU l).take (k*4):=by
 induction l generalizing k with
 |nil=>simp [aU]
 |cons x r ih=>
  cases k with
  |zero=>simp [aU]
  |succ k=>
   have h1:aU (x::r)= .int .i64 x.op:: .int .i64 x.a:: .int .i64 x.n:: .int .i64 x.d::aU r:=rfl;have h2:aU (x::r.take k)= .int .i64 x.op:: .int .i64 x.a:: .int .i64 x.n:: .int .i64 x.d::aU (r.take k):=rfl;rw [take_succ_cons,h2,h1,ih,show(k+1)*4=k*4+1+1+1+1 by omega];rfl
theorem ww(l:List Ins)(k:Nat):aU (l.drop k)=(aU l).drop (k*4):=by
 have h:=congrArg aU (take_append_drop k l);have h2:=take_append_drop (k*4) (aU l);rw [lV,pU]at h;exact append_cancel_left (h.trans h2.symm)
theorem kC(l:List Ins):∀u∈aU l,u.oneCell'=true:=by
 intro u hu;obtain⟨x,-,hx⟩:=mem_flatMap.1 hu;simp at hx;rcases hx with rfl|rfl|rfl|rfl<;>rfl
theorem xZ(l:List ByteArray):∀u∈slV l,u.oneCell'=true:=by
 intro u hu;obtain⟨x,-,rfl⟩:=mem_map.1 hu;rfl
theorem dD.set{l:List Ins}(h:dD l)(k:Nat){x:Ins}(hx:I64 x.n/\I64 x.d):dD (l.set k x):=fun y hy=>by
 rcases mem_or_eq_of_mem_set hy with hy|rfl
 ·exact h y hy
 ·exact hx
theorem dD.at{l:List Ins}(h:dD l)(k:Nat):I64 (l.getD k default).n/\I64 (l.getD k default).d:=by
 rw [getD_eq_getElem?_getD]
 cases e:l[k]? with
 |none=>exact⟨⟨by decide,by decide⟩,⟨by decide,by decide⟩⟩
 |some x=>exact h x (List.mem_of_getElem? e)
structure Spo(w:World)(base g:Nat)(cI cS vI vS:Value)(l:List Ins)(sl:List ByteArray)(W:World):Prop where
 gr:w.Grows W
 wg:w.heap.size<=g
 wb:w.heap.size<=base
 gW:g<W.heap.size
 bW:base<=W.heap.size
 blk:∃ty,W.heap[g]? =some (.cells #[cI,cS] ty (0,0))
 row:eH base W vI l
 slr:W.ownsRow base 9 1 vS sl.length (slV sl)
 dIS:∀b,vI.ownBlock=some b->vS.ownBlock≠some b
 dI:vI.ownBlock≠some g
 dS:vS.ownBlock≠some g
section
variable {w W W' W1 : World} {base g : Nat} {cI cS vI vS v1 : Value} {l l1 : List Ins} {sl sl1 : List ByteArray}
theorem sj{b b' size n:Nat}{e:TypeId}{v:Value}{xs:List Value}(h:W.ownsRow b e size v n xs)(hb:b'<=b):W.ownsRow b' e size v n xs:=by
 exact RB
theorem Spo.grows(h:Spo w base g cI cS vI vS l sl W)(hg:W.Grows W'):Spo w base g cI cS vI vS l sl W':=by
 obtain⟨ty,hb⟩:=h.blk;exact⟨h.gr.trans' hg,h.wg,h.wb,Nat.lt_of_lt_of_le h.gW hg.below.size,Nat.le_trans h.bW hg.below.size,⟨ty,(hg.below.block g h.gW).trans hb⟩,h.row.grows hg,bD h.slr (kU hg none) (fun _ e=>by cases e),h.dIS,h.dI,h.dS⟩
theorem Spo.setc(h:Spo w base g cI cS vI vS l sl W)(j:Nat)(u:Value){dI dS:Value}(hd:((#[cI,cS]:Array Value).setIfInBounds j u)=#[dI,dS]):Spo w base g dI dS vI vS l sl (W.setCell ⟨g,j,none⟩ u):=by
 obtain⟨ty,hb⟩:=h.blk;have hg:=eB W g j u;refine⟨.of_below (h.gr.below.setCell h.wg u),h.wg,h.wb,Nat.lt_of_lt_of_le h.gW hg.size,Nat.le_trans h.bW hg.size,⟨ty, ?_⟩,bD h.row hg ?_,bD h.slr hg ?_,h.dIS,h.dI,h.dS⟩
 ·rw [<-hd];exact Go.Joins.block_setCell hb u
 ·rintro b ⟨⟩ e;exact h.dI e
 ·rintro b ⟨⟩ e;exact h.dS e
theorem Spo.setI(h:Spo w base g cI cS vI vS l sl W)(u:Value):Spo w base g u cS vI vS l sl (W.setCell ⟨g,0,none⟩ u):=h.setc 0 u rfl
theorem Spo.c0(h:Spo w base g cI cS vI vS l sl W):W.cell? ⟨g,0,none⟩=some cI:=by obtain⟨ty,hb⟩:=h.blk;exact cell_of_row W g 0 _ _ _ hb
theorem Spo.c1(h:Spo w base g cI cS vI vS l sl W):W.cell? ⟨g,1,none⟩=some cS:=by obtain⟨ty,hb⟩:=h.blk;exact cell_of_row W g 1 _ _ _ hb
theorem Spo.f(h:Spo w base g cI cS vI vS l sl W)(j:Nat):W.frozen? ⟨g,j,none⟩=false:=by obtain⟨ty,hb⟩:=h.blk;exact Go.Joins.unfrozen_of_block hb j
theorem Spo.poke{gg n c:Nat}(h:Spo w base g cI cS (.slice (some ⟨gg,0,none⟩) n c) vS l sl W)(hn:n=l.length)(o:Nat)(u:Value)(hs:(aU l).set o u=aU l1)(hl:l1.length=l.length):Spo w base g cI cS (.slice (some ⟨gg,0,none⟩) n c) vS l1 sl (W.setCell ⟨gg,o,none⟩ u):=by
 subst hn;have hr:=h.row;unfold eH at hr;obtain⟨h1,h2⟩:=hr.stored o u;have hb:=(hr.lt gg rfl).1;obtain⟨ty,hbk⟩:=h.blk;refine⟨World.Grows.grown h.gr h2 (fun k e=>by cases e;have:=h.wb;omega),h.wg,h.wb,Nat.lt_of_lt_of_le h.gW h2.size,Nat.le_trans h.bW h2.size,⟨ty,(h2.block g h.gW (fun e=>h.dI e.symm)).trans hbk⟩, ?_,bD h.slr h2 h.dIS,h.dIS,h.dI,h.dS⟩;unfold eH;rw [<-hs,hl];exact h1
theorem Spo.cellI{gg n c:Nat}(h:Spo w base g cI cS (.slice (some ⟨gg,0,none⟩) n c) vS l sl W)(hn:n=l.length)(o:Nat)(ho:o<l.length*4):(∃u,W.cell? ⟨gg,o,none⟩=some u)/\W.frozen? ⟨gg,o,none⟩=false:=by
 subst hn;have hr:=h.row;unfold eH at hr;refine⟨?_,hr.frozenAt _⟩;have:=hr.cellAt o zb;rw [this,getElem?_eq_getElem (by rw [kD];omega)];exact⟨_,rfl⟩
theorem Spo.cellA{gg n c:Nat}(h:Spo w base g cI cS (.slice (some ⟨gg,0,none⟩) n c) vS l sl W)(hn:n=l.length)(k:Nat)(hk:k<l.length):W.cell? ⟨gg,k*4+1,none⟩=some (.int .i64 (l.getD k default).a):=by
 subst hn;have hr:=h.row;unfold eH at hr;exact(hr.cellAt (k*4+1) zb).trans (Ch l k hk).2.1
theorem Spo.cells{gg n c:Nat}(h:Spo w base g cI cS (.slice (some ⟨gg,0,none⟩) n c) vS l sl W)(hn:n=l.length)(j:Nat)(u:Value)(hj:(aU l)[j]? =some u):W.cell? ⟨gg,j,none⟩=some u:=by
 subst hn;have hr:=h.row;unfold eH at hr;have:=(List.getElem?_eq_some_iff.1 hj).1;rw [kD]at this;exact(hr.cellAt j this).trans hj
theorem Spo.name{gg n c:Nat}(h:Spo w base g cI cS vI (.slice (some ⟨gg,0,none⟩) n c) l sl W)(hn:n=sl.length)(i:Nat)(s:ByteArray):Spo w base g cI cS vI (.slice (some ⟨gg,0,none⟩) n c) l (sl.set i s) (W.setCell ⟨gg,i,none⟩ (.string s)):=by
 subst hn;obtain⟨h1,h2⟩:=h.slr.stored i (.string s);have hb:=(h.slr.lt gg rfl).1;obtain⟨ty,hbk⟩:=h.blk;refine⟨World.Grows.grown h.gr h2 (fun k e=>by cases e;have:=h.wb;omega),h.wg,h.wb,Nat.lt_of_lt_of_le h.gW h2.size,Nat.le_trans h.bW h2.size,⟨ty,(h2.block g h.gW (fun e=>h.dS e.symm)).trans hbk⟩,bD h.row h2 (kI h.dIS), ?_,h.dIS,h.dI,h.dS⟩;rw [length_set,slV,map_set];exact h1
theorem Spo.cellS{gg n c:Nat}(h:Spo w base g cI cS vI (.slice (some ⟨gg,0,none⟩) n c) l sl W)(hn:n=sl.length)(i:Nat)(hi:i<sl.length):(∃u,W.cell? ⟨gg,i,none⟩=some u)/\W.frozen? ⟨gg,i,none⟩=false:=by
 subst hn;refine⟨?_,h.slr.frozenAt _⟩;have:=h.slr.cellAt i zb;rw [this,Aa sl i hi];exact⟨_,rfl⟩
theorem Spo.newI(h:Spo w base g cI cS vI vS l sl W)(hg:W.Grows W1)(hr:eH W.heap.size W1 v1 l1):Spo w base g cI cS v1 vS l1 sl W1:=by
 have h1:=h.grows hg;refine⟨h1.gr,h1.wg,h1.wb,h1.gW,h1.bW,h1.blk,sj hr h.bW,h1.slr,fun b e e2=>?_,fun e=>?_,h1.dS⟩
 ·have:=(hr.lt b e).1;have:=(h.slr.lt b e2).2;omega
 ·have:=(hr.lt g e).1;have:=h.gW;omega
end
theorem uB{P:Program}{ops:Array Oper}{o:Oper}{a:Act}{w:World}{K:Act->World->Prop}{Q:Exit->Act->World->Prop}{E:Prop}(hgd:o.guard=none)(s x:Operand)(t:TypeId)
 (ho:o.op= .call {callee:=.builtin .append,args:=#[s,x],argTypes:=#[t,t]})
 (base:Nat) (e:TypeId) (i:TypeInfo) (z:Value) (size bytes:Nat) (ht:P.underlying t=some (.slice e)) (hi:P.info? e=some i) (hz:i.zero=some z)
 (hsize:i.size=size) (hby:i.bytes=bytes) (hzs:z.cells.size=size) (hsz:0<size)
 (v:Value) (n:Nat) (xs:List Value) (hs:a.eval s=v) (hown:w.ownsRow base e size v n xs)
 (ad:Addr) (m c:Nat) (news:List Value) (hx:a.eval x= .slice (some ad) m c) (hl:news.length=m*size) (hnews:∀j u,news[j]? =some u->w.cell? (ad.add j)=some u) (h1:∀u∈news,u.oneCell'=true)
 (h63:n+m<=maxLen) (hbytes:(n+m)*bytes<=140737488355328) (hbase:base<=w.heap.size)
 (h:∀v' w',w'.ownsRow base e size v' (n+m) (xs++news)->w.grownBy w' v.ownBlock->K (a.put o.dst v') w') :
 if Region.wanted o (yielded ops a.tmps)=true then Oper.wp P o a w K Q else E:=by
 have hw:Region.wanted o (yielded ops a.tmps)=true:=by simp [Region.wanted,hgd]
 rw [if_pos hw];exact wp_append_own w s x t ho base e i z size bytes ht hi hz hsize hby hzs hsz v n xs hs hown ad m c news hx hl hnews h1 h63 hbytes hbase fun v' w' h2 h3 _=>h v' w' h2 h3
theorem rR{P:Program}{ops:Array Oper}{o:Oper}{a:Act}{w:World}{K:Act->World->Prop}{Q:Exit->Act->World->Prop}{E:Prop}(hgd:o.guard=none)(s x:Operand)(t:TypeId)
 (ho:o.op= .call {callee:=.builtin .append,args:=#[s,x],argTypes:=#[t,t]})
 (base:Nat) (e:TypeId) (i:TypeInfo) (size:Nat) (ht:P.underlying t=some (.slice e)) (hi:P.info? e=some i)
 (v:Value) (n:Nat) (xs:List Value) (hs:a.eval s=v) (hown:w.ownsRow base e size v n xs) (hx:a.eval x= .slice none 0 0)
 (h:K (a.put o.dst v) w):if Region.wanted o (yielded ops a.tmps)=true then Oper.wp P o a w K Q else E:=by
 have hw:Region.wanted o (yielded ops a.tmps)=true:=by simp [Region.wanted,hgd]
 rw [if_pos hw];have hrun:=run_append_owned_none (P:=P) (w:=w) base t o.type e i size ht hi v n xs hown;unfold Oper.wp;simp [execOp,ho,resolve,invoke,builtin,hs,hx,hrun,Result.andThen];exact h
theorem fO{ops:Array Oper}{o:Oper}{a:Act}{w:World}{K:Act->World->Prop}{Q:Exit->Act->World->Prop}{E:Prop}(hgd:o.guard=none)(s x:Operand)(t:TypeId)
 (ho:o.op= .call {callee:=.builtin .append,args:=#[s,x],argTypes:=#[t,t]})
 (base base':Nat) (e:TypeId) (i:TypeInfo) (z:Value) (size bytes:Nat) (ht:prog.underlying t=some (.slice e)) (hi:prog.info? e=some i) (hz:i.zero=some z)
 (hsize:i.size=size) (hby:i.bytes=bytes) (hzs:z.cells.size=size) (hsz:0<size)
 (v u:Value) (n m:Nat) (A B:List Value) (hs:a.eval s=v) (hx:a.eval x=u) (hA:w.ownsRow base e size v n A) (hB:w.ownsRow base' e size u m B) (h1:∀y∈B,y.oneCell'=true)
 (h63:n+m<=maxLen) (hbytes:(n+m)*bytes<=140737488355328) (hbase:base<=w.heap.size)
 (h:∀v' w',w'.ownsRow base e size v' (n+m) (A++B)->w.grownBy w' v.ownBlock->K (a.put o.dst v') w') :
 if Region.wanted o (yielded ops a.tmps)=true then Oper.wp prog o a w K Q else E:=by
 obtain⟨hlB,⟨rfl,h0⟩|⟨g,cap,cur,rfl,hbg,hgl,-⟩⟩:=id hB
 ·refine rR hgd s x t ho base e i size ht hi v _ _ hs hA hx (h v w ?_ (ni _ _));subst h0;have:B= []:=eq_nil_of_length_eq_zero zb;subst this;simpa using hA
 ·refine uB hgd s x t ho base e i z size bytes ht hi hz hsize hby hzs hsz v n _ hs hA ⟨g,0,none⟩ m cap _ hx hlB (fun j y hy=>?_) h1 h63 hbytes hbase (fun v' w' h1 h2=>h v' w' h1 h2);have hj:=(List.getElem?_eq_some_iff.1 hy).1;rw [show(⟨g,0,none⟩:Addr).add j=⟨g,j,none⟩by unfold Addr.add;split<;>simp_all,hB.cellAt j zb];exact hy
def AU(w:World)(v:Value)(l:List (Int × Int × Int)):Prop:=
 ∃a cap,v= .slice a l.length cap/\(l.length=0\/∃b off,a=some ⟨b,off,none⟩/\b<w.heap.size/\∀i,i<l.length->w.cell? ⟨b,off+i*3,none⟩=some (.int .i64 (l.getD i default).1)/\w.cell? ⟨b,off+i*3+1,none⟩=some (.int .i64 (l.getD i default).2.1)/\w.cell? ⟨b,off+i*3+2,none⟩=some (.int .i64 (l.getD i default).2.2))
theorem AU.grows{w w':World}{v:Value}{l:List (Int × Int × Int)}(h:AU w v l)(hg:w.Grows w'):AU w' v l:=by
 obtain⟨a,cap,hv,h1⟩:=h;refine⟨a,cap,hv,h1.imp id ?_⟩;rintro⟨b,off,ha,hb,hc⟩;have hs:=hg.below.size;have e:∀o,w'.cell? ⟨b,o,none⟩=w.cell? ⟨b,o,none⟩:=fun o=>World.cell?_of_block (hg.below.block b hb);refine⟨b,off,ha,by omega,fun i hi=>?_⟩;obtain⟨k1,k2,k3⟩:=hc i hi;exact⟨(e _).trans k1,(e _).trans k2,(e _).trans k3⟩
def vlV(l:List Val):List Value:=l.flatMap fun x=>[.int .i64 x.dim,.bool x.yes,.int .i64 x.n,.int .i64 x.d]
def spV(l:List (ByteArray × Val)):List Value:=l.flatMap fun p=>[.string p.1,.int .i64 p.2.dim,.bool p.2.yes,.int .i64 p.2.n,.int .i64 p.2.d]
theorem Fp(a b:List Val):vlV (a++b)=vlV a++vlV b:=by unfold vlV;rw [flatMap_append]
theorem M6(a b:List (ByteArray × Val)):spV (a++b)=spV a++spV b:=by unfold spV;rw [flatMap_append]
theorem JQ(l:List Val)(k:Nat):vlV (l.take k)=(vlV l).take (k*4):=by
 induction l generalizing k with
 |nil=>simp [vlV]
 |cons x r ih=>
  cases k with
  |zero=>simp [vlV]
  |succ k=>
   have h1:vlV (x::r)= .int .i64 x.dim:: .bool x.yes:: .int .i64 x.n:: .int .i64 x.d::vlV r:=rfl;have h2:vlV (x::r.take k)= .int .i64 x.dim:: .bool x.yes:: .int .i64 x.n:: .int .i64 x.d::vlV (r.take k):=rfl;rw [take_succ_cons,h2,h1,ih,show(k+1)*4=k*4+1+1+1+1 by omega];rfl
theorem xV(l:List Val)(i:Nat)(h:i<l.length):(vlV l)[i*4]? =some (.int .i64 (l.getD i .zero).dim)/\(vlV l)[i*4+1]? =some (.bool (l.getD i .zero).yes)/\(vlV l)[i*4+2]? =some (.int .i64 (l.getD i .zero).n)/\(vlV l)[i*4+3]? =some (.int .i64 (l.getD i .zero).d):=by
 induction l generalizing i with
 |nil=>simp at h
 |cons x r ih=>
  have e:vlV (x::r)= .int .i64 x.dim:: .bool x.yes:: .int .i64 x.n:: .int .i64 x.d::vlV r:=rfl;rw [e]
  cases i with
  |zero=>exact⟨rfl,rfl,rfl,rfl⟩
  |succ i=>
   have:=ih i zy;rw [show(i+1)*4=i*4+1+1+1+1 by omega];exact this
theorem MU(l:List Val)(i:Nat)(x:Val)(h:i<l.length):((((vlV l).set (i*4) (.int .i64 x.dim)).set (i*4+1) (.bool x.yes)).set (i*4+2) (.int .i64 x.n)).set (i*4+3) (.int .i64 x.d)=vlV (l.set i x):=by
 induction l generalizing i with
 |nil=>simp at h
 |cons y r ih=>
  have e:vlV (y::r)= .int .i64 y.dim:: .bool y.yes:: .int .i64 y.n:: .int .i64 y.d::vlV r:=rfl
  cases i with
  |zero=>rfl
  |succ i=>
   have e2:vlV ((y::r).set (i+1) x)= .int .i64 y.dim:: .bool y.yes:: .int .i64 y.n:: .int .i64 y.d::vlV (r.set i x):=rfl;rw [e,e2,<-ih i zy,show(i+1)*4=i*4+1+1+1+1 by omega];rfl
structure dW(w:World)(base Bl:Nat)(stk slots:List Val)(st:List (ByteArray × Val))(vK vS:Value)(W:World):Prop where
 gr:w.Grows W
 wl:w.heap.size<=Bl
 lb:Bl<base
 bW:base<=W.heap.size
 blk:∃ty,W.heap[Bl]? =some (.cells (vlV slots).toArray ty (0,0))
 stk:W.ownsRow base 41 4 vK stk.length (vlV stk)
 stp:W.ownsRow base 70 5 vS st.length (spV st)
 dKS:∀b,vK.ownBlock=some b->vS.ownBlock≠some b
section
variable {w W W' W1 : World} {base Bl : Nat} {stk slots : List Val} {st : List (ByteArray × Val)} {vK vS v1 : Value}
theorem dW.grows(h:dW w base Bl stk slots st vK vS W)(hg:W.Grows W'):dW w base Bl stk slots st vK vS W':=by
 obtain⟨ty,hb⟩:=h.blk;exact⟨h.gr.trans' hg,h.wl,h.lb,Nat.le_trans h.bW hg.below.size,⟨ty,(hg.below.block Bl (Array.getElem?_eq_some_iff.1 hb).1).trans hb⟩,bD h.stk (kU hg none) (fun _ e=>by cases e),bD h.stp (kU hg none) (fun _ e=>by cases e),h.dKS⟩
theorem dW.lt(h:dW w base Bl stk slots st vK vS W):Bl<W.heap.size:=Nat.lt_of_lt_of_le h.lb h.bW
theorem dW.unfr(h:dW w base Bl stk slots st vK vS W)(j:Nat):W.frozen? ⟨Bl,j,none⟩=false:=by
 obtain⟨ty,hb⟩:=h.blk;exact Go.Joins.unfrozen_of_block hb j
theorem dW.slot(h:dW w base Bl stk slots st vK vS W)(k:Nat)(hk:k<slots.length):W.cell? ⟨Bl,k*4,none⟩=some (.int .i64 (slots.getD k .zero).dim)/\W.cell? ⟨Bl,k*4+1,none⟩=some (.bool (slots.getD k .zero).yes)/\W.cell? ⟨Bl,k*4+2,none⟩=some (.int .i64 (slots.getD k .zero).n)/\W.cell? ⟨Bl,k*4+3,none⟩=some (.int .i64 (slots.getD k .zero).d):=by
 obtain⟨ty,hb⟩:=h.blk;obtain⟨e0,e1,e2,e3⟩:=xV slots k hk;refine⟨(cell_of_row W Bl _ _ _ _ hb).trans ?_,(cell_of_row W Bl _ _ _ _ hb).trans ?_,(cell_of_row W Bl _ _ _ _ hb).trans ?_,(cell_of_row W Bl _ _ _ _ hb).trans ?_⟩
 ·simpa using e0
 ·simpa using e1
 ·simpa using e2
 ·simpa using e3
theorem dW.val{g n c:Nat}(h:dW w base Bl stk slots st (.slice (some ⟨g,0,none⟩) n c) vS W)(hn:n=stk.length)(k:Nat)(hk:k<stk.length):W.cell? ⟨g,k*4,none⟩=some (.int .i64 (stk.getD k .zero).dim)/\W.cell? ⟨g,k*4+1,none⟩=some (.bool (stk.getD k .zero).yes)/\W.cell? ⟨g,k*4+2,none⟩=some (.int .i64 (stk.getD k .zero).n)/\W.cell? ⟨g,k*4+3,none⟩=some (.int .i64 (stk.getD k .zero).d):=by
 subst hn;obtain⟨e0,e1,e2,e3⟩:=xV stk k hk;exact⟨(h.stk.cellAt _ zb).trans e0,(h.stk.cellAt _ zb).trans e1,(h.stk.cellAt _ zb).trans e2,(h.stk.cellAt _ zb).trans e3⟩
theorem dW.stack(h:dW w base Bl stk slots st vK vS W){stk1:List Val}(hx:Ext W W1 vK v1)(hr:W1.ownsRow base 41 4 v1 stk1.length (vlV stk1)):dW w base Bl stk1 slots st v1 vS W1:=by
 obtain⟨ty,hb⟩:=h.blk;have hlt:∀k,vK.ownBlock=some k->base<=k:=fun k e=>(h.stk.lt k e).1
 exact⟨World.Grows.grown h.gr hx.g (fun k e=>by have:=hlt k e;have:=h.wl;have:=h.lb;omega),h.wl,h.lb,Nat.le_trans h.bW hx.g.size,
  ⟨ty,(hx.g.block Bl (Array.getElem?_eq_some_iff.1 hb).1 (fun e=>by have:=hlt Bl e.symm;have:=h.lb;omega)).trans hb⟩,hr,bD h.stp hx.g h.dKS,qK hx.at_ (fun k e=>(h.stp.lt k e).2) h.dKS⟩
theorem dW.steps(h:dW w base Bl stk slots st vK vS W){st1:List (ByteArray × Val)}(hx:Ext W W1 vS v1)(hr:W1.ownsRow base 70 5 v1 st1.length (spV st1)):dW w base Bl stk slots st1 vK v1 W1:=by
 obtain⟨ty,hb⟩:=h.blk;have hlt:∀k,vS.ownBlock=some k->base<=k:=fun k e=>(h.stp.lt k e).1
 exact⟨World.Grows.grown h.gr hx.g (fun k e=>by have:=hlt k e;have:=h.wl;have:=h.lb;omega),h.wl,h.lb,Nat.le_trans h.bW hx.g.size,
  ⟨ty,(hx.g.block Bl (Array.getElem?_eq_some_iff.1 hb).1 (fun e=>by have:=hlt Bl e.symm;have:=h.lb;omega)).trans hb⟩,bD h.stk hx.g (kI h.dKS),hr,kI (qK hx.at_ (fun k e=>(h.stk.lt k e).2) (kI h.dKS))⟩
theorem dW.push(h:dW w base Bl stk slots st vK vS W)(x:Val){g n c H:Nat}(hn:n=stk.length+1)(hg:W.Grows W')(hgr:W'.grownBy W1 vK.ownBlock)(ha:vK.ownBlock=some g\/g=H)(hH:W.heap.size<=H)
 (ho:W1.ownsRow base 41 4 (.slice (some ⟨g,0,none⟩) n c) n (vlV stk++[.int .i64 x.dim,.bool x.yes,.int .i64 x.n,.int .i64 x.d])):dW w base Bl (stk++[x]) slots st (.slice (some ⟨g,0,none⟩) n c) vS W1:=by
 subst hn;refine h.stack (Ext.app hg hgr ha hH) ?_;rw [length_append,Fp];exact ho
theorem dW.step(h:dW w base Bl stk slots st vK vS W)(s:ByteArray)(x:Val){g n c H:Nat}(hn:n=st.length+1)(hg:W.Grows W')(hgr:W'.grownBy W1 vS.ownBlock)(ha:vS.ownBlock=some g\/g=H)(hH:W.heap.size<=H)
 (ho:W1.ownsRow base 70 5 (.slice (some ⟨g,0,none⟩) n c) n (spV st++[.string s,.int .i64 x.dim,.bool x.yes,.int .i64 x.n,.int .i64 x.d])):dW w base Bl stk slots (st++[(s,x)]) vK (.slice (some ⟨g,0,none⟩) n c) W1:=by
 subst hn;refine h.steps (Ext.app hg hgr ha hH) ?_;rw [length_append,M6];exact ho
theorem KJ{B size n g cap k:Nat}{e:TypeId}{xs:List Value}(h:W.ownsRow B e size (.slice (some ⟨g,0,none⟩) n cap) n xs)(hk:k<=n):W.ownsRow B e size (.slice (some ⟨g,0,none⟩) k cap) k (xs.take (k*size)):=by
 have hlen:=h.1;rcases h.2 with ⟨h',_⟩|⟨g',cap',cur,h',hb,hg,hnc,hcm,hcs,htake⟩
 ·simp at h'
 ·simp only [Value.slice.injEq,Option.some.injEq,Addr.mk.injEq,and_true,true_and]at h';obtain⟨rfl,rfl⟩:=h';have hle:k*size<=n*size:=Nat.mul_le_mul_right _ hk;exact⟨by rw [length_take,hlen];omega,.inr ⟨g,cap,cur,rfl,hb,hg,Nat.le_trans hk hnc,hcm,hcs,by rw [<-htake,take_take,Nat.min_eq_left hle]⟩⟩
theorem dW.cut{g n c k:Nat}(h:dW w base Bl stk slots st (.slice (some ⟨g,0,none⟩) n c) vS W)(hn:n=stk.length)(hk:k<=stk.length):dW w base Bl (stk.take k) slots st (.slice (some ⟨g,0,none⟩) k c) vS W:=by
 subst hn;have ho:=KJ h.stk hk;rw [<-JQ]at ho;refine⟨h.gr,h.wl,h.lb,h.bW,h.blk, ?_,h.stp,h.dKS⟩;rw [length_take,Nat.min_eq_left hk];exact ho
theorem dW.set(h:dW w base Bl stk slots st vK vS W)(k:Nat)(hk:k<slots.length)(x:Val):dW w base Bl stk (slots.set k x) st vK vS ((((W.setCell ⟨Bl,k*4,none⟩ (.int .i64 x.dim)).setCell ⟨Bl,k*4+1,none⟩ (.bool x.yes)).setCell ⟨Bl,k*4+2,none⟩ (.int .i64 x.n)).setCell ⟨Bl,k*4+3,none⟩ (.int .i64 x.d)):=by
 obtain⟨ty,hb⟩:=h.blk;have g1:=eB W Bl (k*4) (.int .i64 x.dim);have g2:=eB (W.setCell ⟨Bl,k*4,none⟩ (.int .i64 x.dim)) Bl (k*4+1) (.bool x.yes);have g3:=eB ((W.setCell ⟨Bl,k*4,none⟩ (.int .i64 x.dim)).setCell ⟨Bl,k*4+1,none⟩ (.bool x.yes)) Bl (k*4+2) (.int .i64 x.n);have g4:=eB (((W.setCell ⟨Bl,k*4,none⟩ (.int .i64 x.dim)).setCell ⟨Bl,k*4+1,none⟩ (.bool x.yes)).setCell ⟨Bl,k*4+2,none⟩ (.int .i64 x.n)) Bl (k*4+3) (.int .i64 x.d);have nk:∀b,some Bl=some b->vK.ownBlock≠some b:=fun b e e2=>by cases e;have:=(h.stk.lt _ e2).1;have:=h.lb;omega
 have ns:∀b,some Bl=some b->vS.ownBlock≠some b:=fun b e e2=>by cases e;have:=(h.stp.lt _ e2).1;have:=h.lb;omega
 refine⟨.of_below ((((h.gr.below.setCell h.wl _).setCell h.wl _).setCell h.wl _).setCell h.wl _),h.wl,h.lb,Nat.le_trans h.bW (Nat.le_trans g1.size (Nat.le_trans g2.size (Nat.le_trans g3.size g4.size))),⟨ty, ?_⟩,bD (bD (bD (bD h.stk g1 nk) g2 nk) g3 nk) g4 nk,bD (bD (bD (bD h.stp g1 ns) g2 ns) g3 ns) g4 ns,h.dKS⟩;rw [Go.Joins.block_setCell (Go.Joins.block_setCell (Go.Joins.block_setCell (Go.Joins.block_setCell hb _) _) _) _,<-MU slots k x hk];simp
theorem dW.start{Y:World}{ty:TypeId}(hg:w.Grows Y)(hwl:w.heap.size<=Bl)(hb:Y.heap[Bl]? =some (.cells (vlV slots).toArray ty (0,0))):dW w Y.heap.size Bl [] slots [] (.slice none 0 0) (.slice none 0 0) Y:=
 ⟨hg,hwl,(Array.getElem?_eq_some_iff.1 hb).1,Nat.le_refl _,⟨ty,hb⟩,World.ownsRow_nil _ _ _ _,World.ownsRow_nil _ _ _ _,fun _ h=>zD⟩
end
theorem Gx{base:Nat}{w:World}{v:Value}{sl:List ByteArray}(h:w.ownsRow base 9 1 v sl.length (slV sl))(hl:sl.length<=1000)(hs:∀s∈sl,s.size<=maxLen):kJ w v sl:=by
 obtain⟨a,c,rfl,hc,h0⟩:=aZ h;refine⟨by omega,hs,a,c,hc,rfl,h0.imp id ?_⟩;rintro⟨b,rfl,hb,-,hlt⟩;refine⟨b,0,rfl,hlt,fun i hi=>?_⟩;rw [Nat.zero_add];exact(h.cellAt i zb).trans (Aa sl i hi)
theorem OB{n d:Int}(h:az n d=true):I64 n/\I64 d:=by have:=aF h;unfold I64;omega
theorem dD.app9{a b:List Ins}(h:dD a)(k:dD b):dD (a++b):=fun x hx=>(mem_append.1 hx).elim (h x) (k x)
theorem dD.nil9:dD []:=fun x hx=>by cases hx
theorem dD.one9{x:Ins}{b:List Ins}(hx:I64 x.n/\I64 x.d)(k:dD b):dD (x::b):=fun y hy=>by
 rcases mem_cons.1 hy with h|h
 ·rw [h];exact hx
 ·exact k y h
theorem jO:I64 0/\I64 0:=by unfold I64;omega
theorem Bo{κ:ByteArray->Nat}:∀(xs:List Ex),(∀a∈xs,∀i,dD (codeF κ a i))->∀i,dD (gN (di κ xs) i)
 | [],_,_=>.nil9
 |a::r,h,i=>(h a ze i).app9 (Bo r (fun b hb=>h b (mem_cons_of_mem _ hb)) _)
theorem AC{A B C:Nat->List Ins}(hA:∀i,dD (A i))(hB:∀i,dD (B i))(hC:∀i,dD (C i))(i:Nat):dD (brC A B C i):=
 (hA i).app9 (.one9 jO ((hB _).app9 (.one9 jO (hC _))))
theorem uo{κ:ByteArray->Nat}(xs:List Ex)(h:∀a∈xs,∀i,dD (codeF κ a i))(k i:Nat):dD ((di κ xs).getD k (fun _=>[]) i):=by
 induction xs generalizing k with
 |nil=>simpa [di]using dD.nil9
 |cons a r ih=>
  cases k with
  |zero=>exact h a ze i
  |succ k=>exact ih (fun b hb=>h b (mem_cons_of_mem _ hb)) k
mutual
theorem uf{κ:ByteArray->Nat}:∀e:Ex,aM e=true->∀i,dD (codeF κ e i)
 | .mk op n d m s xs,hf,i=>by
   rw [aM,Bool.and_eq_true,decide_eq_true_eq]at hf;obtain⟨hlen,hf⟩:=hf;rw [codeF];unfold oW;by_cases h1:op=1
   ·rw [if_pos h1]at hf ⊢;refine .one9 ?_ .nil9;unfold fB at hf;simp only [Bool.and_eq_true]at hf;exact OB (by first|exact hf.1.1.1.1.1.1|exact hf.1.1.1.1.1|exact hf.1.1.1.1|exact hf.1.1.1|exact hf.1.1|exact hf.1)
   by_cases h2:op=2
   ·rw [if_neg h1,if_pos h2];refine .one9 ?_ .nil9;unfold KR
    split<;>exact jO
   by_cases h3:op=3
   ·rw [if_neg h1,if_neg h2,if_pos h3];exact .one9 jO .nil9
   rw [if_neg h1,if_neg h2,if_neg h3]at hf ⊢;have hx:=wV (κ:=κ) xs (Bool.and_eq_true_iff.1 hf).1;have a0:=fun i=>uo xs hx 0 i;have a1:=fun i=>uo xs hx 1 i;have a2:=fun i=>uo xs hx 2 i;by_cases h17:op=17
   ·rw [if_pos h17];exact AC a0 a1 (fun _=>.one9 jO .nil9) i
   by_cases h18:op=18
   ·rw [if_neg h17,if_pos h18];exact AC a0 (fun _=>.one9 jO .nil9) a1 i
   by_cases h21:op=21
   ·rw [if_neg h17,if_neg h18,if_pos h21];exact AC a0 a1 a2 i
   rw [if_neg h17,if_neg h18,if_neg h21];exact(Bo xs hx i).app9 (.one9 jO .nil9)
theorem wV{κ:ByteArray->Nat}:∀xs:List Ex,aW xs=true->∀a∈xs,∀i,dD (codeF κ a i)
 | [],_,_,ha,_=>by cases ha
 |e::r,hf,a,ha,i=>by
  rw [aW,Bool.and_eq_true]at hf;rcases mem_cons.1 ha with h|ha
  ·rw [h];exact uf e hf.1 i
  ·exact wV r hf.2 a ha i
end
theorem wW(ls:List (List Int))(g:List Int):∀k,k<=5->dD (dL ls g k)
 |0,_=>.nil9
 |k+1,h=>by
  have ih:=wW ls g k zb;have hb:=iK ls k;have t1:=fun n=>uf (κ:=slK (aD k)) _ (mK (l:=ls) (i:=k) zb g (dim:=1) zb zb).1 n;have t2:=fun n=>uf (κ:=slK (aD k)) _ (mK (l:=ls) (i:=k) zb (ls.getD k []) hb.1 hb.2).1 n;have e:(kW ls k).e=dZ (ls.getD k []) (bM ls k) (jQ ls k):=rfl;rw [dL,e];dsimp only
  split
  ·unfold gG;have hA:dD (dL ls g k++codeF (slK (aD k)) (dZ g (bM ls k) 1) (dL ls g k).length++[(⟨22,0,0,0⟩:Ins)]++codeF (slK (aD k)) (dZ (ls.getD k []) (bM ls k) (jQ ls k)) (dL ls g k++codeF (slK (aD k)) (dZ g (bM ls k) 1) (dL ls g k).length++[(⟨22,0,0,0⟩:Ins)]).length++[(⟨4,(k:Int),0,0⟩:Ins)]):=(((ih.app9 (t1 _)).app9 (.one9 jO .nil9)).app9 (t2 _)).app9 (.one9 jO .nil9);exact hA.set _ (hA.at _)
  ·exact(ih.app9 (t2 _)).app9 (.one9 jO .nil9)
theorem Ik(l:List (List Int))(g:List Int):dD (vR l g):=by
 rw [<-nO];exact wW l g _ zb
theorem Ij(ls:List (List Int))(g:List Int):(vR ls g).length<=2000:=by
 rw [<-nO];have:=kH ls g (min ls.length 5) zb;omega
end Go.Proofs.YteildlpchhlchaaGreatDoor
