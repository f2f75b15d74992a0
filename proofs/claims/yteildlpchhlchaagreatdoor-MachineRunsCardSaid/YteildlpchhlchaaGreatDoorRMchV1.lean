import Derived.Test.YteildlpchhlchaaGreatDoorRMchG
set_option linter.all false
set_option maxHeartbeats 16000000
set_option maxRecDepth 1000000
namespace Go.Proofs.YteildlpchhlchaaGreatDoor
open Tryz List
open Go.RowKit
structure mV(n NS ND:Nat)(W0:World)(i:Nat)(S:List (Option (List Int × List Bool)))(R:Nat->Value)(dims:List Int)(w:World):Prop where
 lt:NS<ND
 sz:ND<w.heap.size
 lo:Below NS W0 w
 len:S.length=n+1
 st:∀j,j<=n->StM w NS (j*14) (R j) (S.getD j none)
 sf:∀o,w.frozen? ⟨NS,o,none⟩=false
 row:∀j t,i<=j->S.getD j none=some t->w.ownsRow (ND+1) 3 1 (R j) t.1.length (t.1.map (Value.int .i64))/\t.1.length<=24/\qV t dims
 dis:∀j k t u g,i<=j->j<k->S.getD j none=some t->S.getD k none=some u->(R j).ownBlock=some g->(R k).ownBlock≠some g
 dm:bu w ND 0 (dims.map (Value.int .i64))
 df:∀o,w.frozen? ⟨ND,o,none⟩=false
 rd:MC dims
section
variable {n NS ND i NB : Nat} {W0 w w1 w2 w' : World} {S : List (Option (List Int × List Bool))} {R : Nat -> Value} {dims dims' : List Int} {s s' : List Int × List Bool} {v' : Value}
theorem mV.grows(h:mV n NS ND W0 i S R dims w)(hg:w.Grows w'):mV n NS ND W0 i S R dims w':=by
 have hs:=hg.below.size;have hsz:=h.sz;have hlt:=h.lt;have e1:=hg.below.block NS zb;have e2:=hg.below.block ND h.sz;refine⟨h.lt,by omega,h.lo.trans (hg.below.mono zb),h.len,fun j hj=>(h.st j hj).same fun o=>World.cell?_of_block (a:=⟨NS,o,none⟩) e1,fun o=>(World.frozen?_of_block (a:=⟨NS,o,none⟩) e1).trans (h.sf o),fun j t hj ht=>?_,h.dis,h.dm.same fun o=>World.cell?_of_block (a:=⟨ND,o,none⟩) e2,fun o=>(World.frozen?_of_block (a:=⟨ND,o,none⟩) e2).trans (h.df o),h.rd⟩;obtain⟨a,b,c⟩:=h.row j t hj ht;exact⟨aV.row (P:=fun _=>False) (.grows hg) a fun _ _ e=>e,b,c⟩
theorem mV.now(h:mV n NS ND W0 i S R dims w)(hs:S.getD i none=some s)(hg:w.Grows w1)(hNB:w.heap.size<=NB)(hNB1:NB<w1.heap.size)(hst:StC w1 NB 0 true (R i) s.2)(hfr:∀o,w1.frozen? ⟨NB,o,none⟩=false):jV NB ND (ND+1) (R i) s dims w1:=by
 obtain⟨hr,hl,hq⟩:=h.row i s (Nat.le_refl _) hs;have h1:=h.grows hg;have hsz:=h.sz;have hz:=hg.below.size;refine⟨hNB1,h1.sz,by omega,fun e=>?_,fun e=>?_,by omega,hst,hfr,h1.dm,h1.df,(h1.row i s (Nat.le_refl _) hs).1,hl⟩
 ·have:=(hr.lt _ e).2;omega
 ·have:=(hr.lt _ e).1;omega
theorem mV.applied(h:mV n NS ND W0 i S R dims w)(hs:S.getD i none=some s)(hg:w.Grows w1)(hNB:w.heap.size<=NB)(hr:iJ NB ND (ND+1) (R i) v' s' dims' w1 w2)(hd:MC dims')(hm:∀k,1<=dims.getD k 0->1<=dims'.getD k 0):mV n NS ND W0 (i+1) S R dims' w2:=by
 have h1:=h.grows hg;have hsz:=h.sz;have hlt:=h.lt;have hz1:=hg.below.size;have hz2:=hr.mods.size;obtain⟨ho,-,-⟩:=h.row i s (Nat.le_refl _) hs;have hR:∀g,(R i).ownBlock=some g->ND+1<=g:=fun g e=>(ho.lt g e).1
 have e1:w2.heap[NS]? =w1.heap[NS]?:=hr.mods.block NS zb fun q=>by
  rcases q with q|q|q
  ·omega
  ·omega
  ·have:=hR _ q;omega
 refine⟨h.lt,by omega,h1.lo.trans ⟨hr.mods.os,hr.mods.tape,hr.mods.output,hr.mods.size,fun k hk=>hr.mods.block k zb fun q=>?_⟩,h.len,fun j hj=>(h1.st j hj).same fun o=>World.cell?_of_block (a:=⟨NS,o,none⟩) e1,fun o=>(World.frozen?_of_block (a:=⟨NS,o,none⟩) e1).trans (h1.sf o),fun j t hj ht=>?_,fun j k t u g hj=>h.dis j k t u g zb,hr.dm,fun o=>(hr.dfr o).trans (h1.df o),hd⟩
 ·rcases q with q|q|q
  ·omega
  ·omega
  ·have:=hR _ q;omega
 ·obtain⟨a,b,c⟩:=h1.row j t zb ht;refine⟨hr.mods.row a fun g hgb q=>?_,b,⟨c.stk,fun k hk=>hm k (c.set k hk),c.len⟩⟩;rcases q with q|q|q
  ·have:=((h.row j t zb ht).1.lt g hgb).2;omega
  ·have:=(a.lt g hgb).1;omega
  ·exact h.dis i j s t g (Nat.le_refl _) zb hs ht q hgb
theorem qD{α:Type}(l:List (Option α))(k j:Nat)(a:Option α):(l.set k a).getD j none=if k=j/\j<l.length then a else l.getD j none:=ay l k j a none
theorem mV.merged(h:mV n NS ND W0 i S R dims w){k:Nat}{e:Ending}(hk:i<=k)(hkn:k<=n)(hs:qV s dims)(hs24:s.1.length<=24)(hm:SK NS (k*14) (ND+1) (R k) (S.getD k none) s w e w') :
 ∃b,e= .returned (.bool b)/\aV (fun b=>b=NS) w w'/\((b=false/\fG S k s=none)\/(b=true/\∃S' R',fG S k s=some S'/\mV n NS ND W0 i S' R' dims w')):=by
 obtain⟨b,he,hmod,hout,hfr,hc⟩:=hm;have hsz:=h.sz;have hlt:=h.lt;have hz:=hmod.size;refine⟨b,he,hmod, ?_⟩;rw [KA]
 cases hq:Hz (S.getD k none) s with
 |none=>rw [hq]at hc;exact .inl ⟨hc,rfl⟩
 |some s2=>
  rw [hq]at hc;obtain⟨hb,v2,hst,hrow,hown⟩:=hc;have hkl:k<S.length:=by rw [h.len];omega
  have hg:∀j,(S.set k (some s2)).getD j none=if k=j then some s2 else S.getD j none:=fun j=>by
   rw [qD];by_cases c:k=j
   ·subst c;rw [if_pos ⟨rfl,hkl⟩,if_pos rfl]
   ·rw [if_neg (fun q=>c q.1),if_neg c]
  have e2:w'.heap[ND]? =w.heap[ND]?:=hmod.block ND h.sz zb
  have hr2:qV s2 dims/\s2.1.length<=24:=by
   unfold Hz at hq
   cases ht:S.getD k none with
   |none=>rw [ht]at hq;obtain rfl:=Option.some.inj hq;exact⟨hs,hs24⟩
   |some t=>
    rw [ht]at hq;obtain⟨-,tl,tr⟩:=h.row k t hk ht;by_cases c:t.1=s.1
    ·simp only [if_pos c]at hq;obtain rfl:=Option.some.inj hq;exact⟨⟨tr.stk,fun j hj=>tr.set j (jW hj).1,by rw [length_zipWith,tr.len,hs.len];rfl⟩,tl⟩
    ·simp only [if_neg c]at hq;cases hq
  have hnew:∀j t,i<=j->j≠k->S.getD j none=some t->∀g,(R j).ownBlock=some g->v2.ownBlock≠some g:=fun j t hj hjk ht g hgb hv=>by
   have hgl:=((h.row j t hj ht).1.lt g hgb).2;rcases hown with ⟨hne,rfl⟩|⟨-,hf⟩
   ·cases hu:S.getD k none with
    |none=>exact hne hu
    |some u=>
     rcases Nat.lt_or_gt_of_ne hjk with c|c
     ·exact h.dis j k t u g hj c ht hu hgb hv
     ·exact h.dis k j u t g hk c hu ht hv hgb
   ·have:=hf g hv;omega
  refine .inr ⟨hb,S.set k (some s2),fun j=>if j=k then v2 else R j,rfl,⟨h.lt,by omega,h.lo.trans ⟨hmod.os,hmod.tape,hmod.output,hmod.size,fun j hj=>hmod.block j zb zb⟩,by rw [length_set];exact h.len,fun j hj=>?_,fun o=>(hfr o).trans (h.sf o),fun j t hj ht=>?_,fun j k2 t u g hj hjk ht hu hgb hv=>?_,h.dm.same fun o=>World.cell?_of_block (a:=⟨ND,o,none⟩) e2,fun o=>(World.frozen?_of_block (a:=⟨ND,o,none⟩) e2).trans (h.df o),h.rd⟩⟩
  ·rw [hg];by_cases c:j=k
   ·subst c;rw [if_pos rfl];simp only [if_true];exact hst
   ·rw [if_neg (Ne.symm c)];simp only [if_neg c];exact(h.st j hj).near fun o h1 h2=>hout o zb
  ·rw [hg]at ht;by_cases c:j=k
   ·subst c;rw [if_pos rfl]at ht;obtain rfl:=Option.some.inj ht;simp only [if_true];exact⟨hrow,hr2.2,hr2.1⟩
   ·rw [if_neg (Ne.symm c)]at ht;simp only [if_neg c];obtain⟨a,b',c'⟩:=h.row j t hj ht;exact⟨hmod.row a fun g hgb q=>by have:=(a.lt g hgb).1;omega,b',c'⟩
  ·rw [hg]at ht hu;by_cases c1:j=k
   ·subst c1;rw [if_neg zb]at hu;simp only [if_true]at hgb;simp only [if_neg (by omega:¬k2=j)]at hv;exact hnew k2 u zb zb hu g hv hgb
   ·rw [if_neg (Ne.symm c1)]at ht;simp only [if_neg c1]at hgb;by_cases c2:k2=k
    ·subst c2;simp only [if_true]at hv;exact hnew j t hj c1 ht g hgb hv
    ·rw [if_neg (Ne.symm c2)]at hu;simp only [if_neg c2]at hv;exact h.dis j k2 t u g hj hjk ht hu hgb hv
end
def stZ:Array Value:=#[.bool false,.slice none 0 0,.bool false,.bool false,.bool false,.bool false,.bool false,.bool false,.bool false,.bool false,.bool false,.bool false,.bool false,.bool false]
theorem QN:(prog.info? 190).map (fun i=>(i.zero,i.size,i.bytes))=some (some (.agg stZ),14,48):=by kernel_rfl
theorem BU(n:Nat)(h:n<=4000)(w:World):(Instr.makeSlice 188 (.int .i64 ((n:Int)+1)) (.int .i64 ((n:Int)+1))).run prog w= .ok (.slice (some ⟨w.heap.size,0,none⟩) (n+1) (n+1)) (w.alloc (.cells (madeCells stZ ((n+1)*14)) 190)):=
 mZ 188 190 (.agg stZ) 14 48 underlying188 QN n zb zb w
def dmZ:Array Value:=#[.int .i64 0,.int .i64 0,.int .i64 0,.int .i64 0,.int .i64 0,.int .i64 0,.int .i64 0,.int .i64 0,.int .i64 0,.int .i64 0,.int .i64 0,.int .i64 0]
def S0(n:Nat):List (Option (List Int × List Bool)):=some ([],List.replicate 12 false)::List.replicate n none
theorem Mx(n j:Nat)(hj:j≠0):(S0 n).getD j none=none:=by
 unfold S0
 cases j with
 |zero=>exact absurd rfl hj
 |succ j=>rw [getD_cons_succ,getD_eq_getElem?_getD,getElem?_replicate];split<;>rfl
theorem mV.start(n:Nat)(W0 W1 W2:World)(h1:W1=W0.alloc (.cells (madeCells stZ ((n+1)*14)) 190))(h2:W2=(W1.setCell ⟨W0.heap.size,0,none⟩ (.bool true)).alloc (.cells dmZ 191)) :
 mV n W0.heap.size (W0.heap.size+1) W0 0 (S0 n) (fun _=>.slice none 0 0) (List.replicate 12 0) W2:=by
 have hz1:W1.heap.size=W0.heap.size+1:=by rw [h1];simp
 have hmc:∀j,j<n+1->bu W1 W0.heap.size (j*14) stZ.toList:=fun j hj=>by rw [h1];exact nH rfl zf hj
 have hs:(W1.setCell ⟨W0.heap.size,0,none⟩ (.bool true)).heap.size=W0.heap.size+1:=by simp [World.setCell,hz1]
 have hg:(W1.setCell ⟨W0.heap.size,0,none⟩ (.bool true)).Grows W2:=by rw [h2];exact af
 have e1:=hg.below.block W0.heap.size (by rw [hs];omega);have c1:∀o,W2.cell? ⟨W0.heap.size,o,none⟩=(W1.setCell ⟨W0.heap.size,0,none⟩ (.bool true)).cell? ⟨W0.heap.size,o,none⟩:=fun o=>World.cell?_of_block (a:=⟨W0.heap.size,o,none⟩) e1;have hf1:∀o,W1.frozen? ⟨W0.heap.size,o,none⟩=false:=fun o=>by rw [h1];exact World.frozen?_alloc_at _ _ _ _ rfl
 refine⟨by omega,by rw [h2];simp [hs], ?_,by simp [S0],fun j hj=>?_,fun o=>?_,fun j t hj ht=>?_,fun j k t u g _ hjk ht hu hgb=>(by cases hgb), ?_,fun o=>?_,⟨by simp,fun k=>?_⟩⟩
 ·rw [h2];have hle:W0.heap.size<=(W1.setCell ⟨W0.heap.size,0,none⟩ (.bool true)).heap.size:=by rw [hs];omega
  refine Below.alloc (B:=W0.heap.size) (Below.setCell (p:=⟨W0.heap.size,0,none⟩) ?_ (Nat.le_refl _) _) hle _;rw [h1];exact(Below.refl _ _).alloc (Nat.le_refl _) _
 ·by_cases h0:j=0
  ·subst h0;have h3:=((hmc 0 zb).set 0 (.bool true) zf).same c1;exact⟨by simp,h3⟩
  ·rw [Mx _ _ h0];have h3:=((hmc j zb).other (M:=W0.heap.size) (o:=0) (.bool true) (by right;left;omega)).same c1;exact⟨List.replicate 12 false,by simp,h3⟩
 ·rw [World.frozen?_of_block (a:=⟨W0.heap.size,o,none⟩) e1,World.frozen?_setCell];exact hf1 o
 ·by_cases h0:j=0
  ·subst h0;obtain rfl:=Option.some.inj ht;refine⟨World.ownsRow_nil _ _ _ _,by simp,fun z hz=>(by cases hz),fun k hk=>?_,by simp⟩;have hk':(List.replicate 12 false).getD k false=true:=hk;rw [getD_eq_getElem?_getD,getElem?_replicate]at hk'
   split at hk'<;>cases hk'
  ·rw [Mx _ _ h0]at ht;cases ht
 ·intro i u hu;rw [h2,<-hs,cell_of_row _ _ _ _ _ _ (heap_alloc_new _ _)];have:(dmZ.toList)[0+i]? =some u:=by rw [Nat.zero_add];exact hu
  simpa using this
 ·rw [h2,<-hs];exact World.frozen?_alloc_at _ _ _ _ rfl
 ·rw [getD_eq_getElem?_getD,getElem?_replicate]
  split<;>simp
def JC(r:Int × Int)(w:World)(e:Ending)(w':World):Prop:=e= .returned (.tuple #[.int .i64 r.1,.int .i64 r.2])/\w.Grows w'
theorem xW{l:List Ins}{sl:List ByteArray}(h:fA l sl=false):dO l sl=(0,8):=by unfold dO;rw [h,if_neg ze]
theorem tJ{l:List Ins}{sl:List ByteArray}(h:4000<l.length):fA l sl=false:=by unfold fA;rw [decide_eq_false zb];rfl
theorem CF{l:List Ins}{sl:List ByteArray}{k:Nat}(hk:k<l.length)(h:wfF sl.length l.length k (l.getD k default)=false):fA l sl=false:=by
 unfold fA
 have:(List.range l.length).all (fun i=>wfF sl.length l.length i (l.getD i default))=false:=by
  rw [Bool.eq_false_iff];intro hc;rw [all_eq_true]at hc;have:=hc k (mem_range.2 hk);rw [h]at this;cases this
 rw [this];simp
theorem l6{l:List Ins}{sl:List ByteArray}(h:(dX sl&&decide (dK l).Nodup)=false):fA l sl=false:=by unfold fA;rw [h];simp
theorem wP{l:List Ins}{sl:List ByteArray}(h4:l.length<=4000)(hw:∀k,k<l.length->wfF sl.length l.length k (l.getD k default)=true)(h:(dX sl&&decide (dK l).Nodup)=true):fA l sl=true:=by
 unfold fA;rw [decide_eq_true h4,h,all_eq_true.2 (fun k hk=>hw k (mem_range.1 hk))];rfl
theorem JM{sl:List ByteArray}(h:dX sl=true):sl.length<=12:=by
 unfold dX at h;simp only [Bool.and_eq_true,decide_eq_true_eq]at h;exact h.1.1
theorem DR(l:List Ins)(sl:List ByteArray)(vi vs:Value)(w:World)(hI:ig w vi l)(hS:kJ w vs sl)(h12:12<sl.length) :
 Calls prog 124 #[.agg #[vi,vs]] w fun e w'=>e= .returned (.bool (dX sl&&decide (dK l).Nodup))/\w.Grows w':=by
 obtain⟨hl6,ai,ci,rfl,hix⟩:=hI;obtain⟨hs6,hmx,as',cs',hcp,rfl,hsx⟩:=hS;have h12':(12:Int)<(sl.length:Int):=by omega
 have HW:Hid (dX sl=false):=yq yO;clear hix hsx hmx hcp h12
 go_enter func124,ntmps124
 go_wp2_with fail
 go_returns
 exact⟨by rw [HW.out];rfl,af⟩
theorem Gw(l:List Ins)(sl:List ByteArray)(vi vs:Value)(w:World)(hI:ig w vi l)(hS:kJ w vs sl)(hW:sl.length<=12->∀i,i<l.length->(l.getD i default).op=4->0<=(l.getD i default).a/\(l.getD i default).a<12) :
 Calls prog 124 #[.agg #[vi,vs]] w fun e w'=>e= .returned (.bool (dX sl&&decide (dK l).Nodup))/\w.Grows w':=by
 by_cases h:12<sl.length
 ·exact DR l sl vi vs w hI hS h
 ·exact DT l sl vi vs w hI hS (hW zb)
structure Aft(n NS ND XB NB:Nat)(W0 W:World)(cb:Nat × Value)(i:Nat)(S:List (Option (List Int × List Bool)))(R:Nat->Value)(dims:List Int)(v:Value)(s:List Int × List Bool)(x:Ins)(w:World):Prop where
 inv:mV n NS ND W0 i S R dims w
 nb:StC w NB 0 true v s.2
 row:w.ownsRow (ND+1) 3 1 v s.1.length (s.1.map (Value.int .i64))
 xb:bu w XB 0 [.int .i64 x.op,.int .i64 x.a,.int .i64 x.n,.int .i64 x.d]
 hx:ND<XB
 hn:XB<NB
 hz:NB<w.heap.size
 hc:cb.1<NS
 cbc:w.cell? ⟨cb.1,0,none⟩=some cb.2
 gr:W.Grows w
theorem Aft.grows{n NS ND XB NB:Nat}{W0 W:World}{cb:Nat × Value}{i:Nat}{S:List (Option (List Int × List Bool))}{R:Nat->Value}{dims:List Int}{v:Value}{s:List Int × List Bool}{x:Ins}{w w':World}(h:Aft n NS ND XB NB W0 W cb i S R dims v s x w)(hg:w.Grows w'):Aft n NS ND XB NB W0 W cb i S R dims v s x w':=by
 have h1:=h.hz;have h2:=h.hn;have h3:=h.hx;have h4:=h.hc;have h5:=h.inv.lt;have e:∀k o,k<w.heap.size->w'.cell? ⟨k,o,none⟩=w.cell? ⟨k,o,none⟩:=fun k o hk=>World.cell?_of_block (a:=⟨k,o,none⟩) (hg.below.block k hk);exact⟨h.inv.grows hg,h.nb.same fun o=>e _ o h1,aV.row (P:=fun _=>False) (.grows hg) h.row fun _ _ e=>e,h.xb.same fun o=>e _ o zb,h3,h2,Nat.lt_of_lt_of_le h1 hg.below.size,h4,(e _ _ zb).trans h.cbc,gqq h.gr hg⟩
theorem Aft.merge{n NS ND XB NB:Nat}{W0 W:World}{cb:Nat × Value}{i:Nat}{S:List (Option (List Int × List Bool))}{R:Nat->Value}{dims:List Int}{v:Value}{s:List Int × List Bool}{x:Ins}{w:World}(h:Aft n NS ND XB NB W0 W cb i S R dims v s x w)(hW:W.heap.size<=NS)(k:Nat)(hk:i<=k)(hkn:k<=n)(hs:qV s dims)(hs24:s.1.length<=24)(b0 b1 b2 b3 b4 b5 b6 b7 b8 b9 b10 b11:Bool)(hsb:s.2= [b0,b1,b2,b3,b4,b5,b6,b7,b8,b9,b10,b11]) :
 Calls prog 126 #[.pointer (some ⟨NS,k*14,none⟩),.agg #[.bool true,v,.bool b0,.bool b1,.bool b2,.bool b3,.bool b4,.bool b5,.bool b6,.bool b7,.bool b8,.bool b9,.bool b10,.bool b11]] w fun e w'=>(e= .returned (.bool false)/\fG S k s=none/\W.Grows w')\/(e= .returned (.bool true)/\∃S' R',fG S k s=some S'/\Aft n NS ND XB NB W0 W cb i S' R' dims v s x w'):=by
 have h1:=h.hz;have h2:=h.hn;have h3:=h.hx;have h4:=h.hc;have h5:=h.inv.lt;have hvn:v.ownBlock≠some NS:=fun e=>by have:=(h.row.lt _ e).1;omega
 refine(Ie NS (k*14) (ND+1) (ND+1) (S.getD k none) s (R k) v w zb zb zb (h.inv.st k hkn) h.inv.sf (fun t ht=>by
  obtain⟨a,b,-⟩:=h.inv.row k t hk ht
  exact⟨a,by omega⟩) h.row zb hvn hs.len b0 b1 b2 b3 b4 b5 b6 b7 b8 b9 b10 b11 hsb).mono ?_
 intro e w' hm;obtain⟨b,he,hmod,hc⟩:=h.inv.merged hk hkn hs hs24 hm;have hg:W.Grows w':=.of_below (hmod.below h.gr.below (by have:=h.gr.below.size;omega) (fun k e=>by omega));rcases hc with ⟨rfl,hp⟩|⟨rfl,S',R',hp,hv⟩
 ·exact .inl ⟨he,hp,hg⟩
 ·refine .inr ⟨he,S',R',hp,hv,h.nb.same fun o=>hmod.cell h1 zb o,hmod.row h.row fun g hg q=>hvn (q ▸ hg),h.xb.same fun o=>hmod.cell zb zb o,h3,h2,Nat.lt_of_lt_of_le h1 hmod.size,h4,(hmod.cell zb zb 0).trans h.cbc,hg⟩
section
variable {S S1 S2 : List (Option (List Int × List Bool))} {x : Ins} {i dep : Nat} {dims dims' : List Int} {s s' : List Int × List Bool} {r : List Ins}
theorem Av(h:iU S x i dims dep=none):goA (x::r) i S dims dep=(0,8):=by rw [goA,h]
theorem Au{dep':Nat}(h:iU S x i dims dep=some (S1,dims',dep')):goA (x::r) i S dims dep=goA r (i+1) S1 dims' dep':=by rw [goA,h]
theorem Kk(hsi:S.getD i none=some s)(hap:bN x s dims=some (s',dims'))(h24:¬24<s'.1.length)(o:x.op≠21)(hp:fG S (i+1) s'=none):iU S x i dims dep=none:=by
 unfold iU;simp only [hsi,hap,if_neg h24,if_neg o,hp]
theorem Kj(hsi:S.getD i none=some s)(hap:bN x s dims=some (s',dims'))(h24:¬24<s'.1.length)(o:x.op≠21)(o2:x.op≠22)(hp:fG S (i+1) s'=some S1):iU S x i dims dep=some (S1,dims',max dep s'.1.length):=by
 unfold iU;simp only [hsi,hap,if_neg h24,if_neg o,hp,if_neg (show ¬(x.op=21\/x.op=22)by omega)]
theorem DY(hsi:S.getD i none=some s)(hap:bN x s dims=some (s',dims'))(h24:¬24<s'.1.length)(o:x.op=22)(hp:fG S (i+1) s'=some S1)(hp2:fG S1 x.a.toNat s'=none):iU S x i dims dep=none:=by
 exact Rz
theorem DX(hsi:S.getD i none=some s)(hap:bN x s dims=some (s',dims'))(h24:¬24<s'.1.length)(o:x.op=22)(hp:fG S (i+1) s'=some S1)(hp2:fG S1 x.a.toNat s'=some S2):iU S x i dims dep=some (S2,dims',max dep s'.1.length):=by
 exact Rz
theorem D5(hsi:S.getD i none=some s)(hap:bN x s dims=some (s',dims'))(h24:¬24<s'.1.length)(o:x.op=21)(hp2:fG S x.a.toNat s'=none):iU S x i dims dep=none:=by
 unfold iU;simp only [hsi,hap,if_neg h24,if_pos o,if_pos (show x.op=21\/x.op=22 by omega),hp2]
theorem DZ(hsi:S.getD i none=some s)(hap:bN x s dims=some (s',dims'))(h24:¬24<s'.1.length)(o:x.op=21)(hp2:fG S x.a.toNat s'=some S2):iU S x i dims dep=some (S2,dims',max dep s'.1.length):=by
 unfold iU;simp only [hsi,hap,if_neg h24,if_pos o,if_pos (show x.op=21\/x.op=22 by omega),hp2]
end
theorem kr{w:World}{B:Nat}{v:Value}{zs:List Int}(h:w.ownsRow B 3 1 v zs.length (zs.map (Value.int .i64))):∃a c,v= .slice a zs.length c:=by
 exact Rn
theorem qM(hInf:Hid gU)(l:List Ins)(sl:List ByteArray)(vi vs:Value)(w:World)(hI:ig w vi l)(hS:kJ w vs sl)(ht:Tab w) :
 Calls prog 66 #[.agg #[vi,vs]] w (JC (dO l sl) w):=by
 have HI:=yq hI;have HS:=yq hS;have HT:=yq ht;obtain⟨hl6,ai,ci,rfl,hix⟩:=hI;have HIX:=yq hix;obtain⟨hs6,hmx,as',cs',hcp,rfl,hsx⟩:=hS;clear hix hsx hmx hcp ht;by_cases h4:4000<l.length
 ·have h4':(4000:Int)<(l.length:Int):=by omega
  rw [xW (tJ h4)]
  go_enter func66,ntmps66
  go_wp2_with fail
  go_returns
  exact⟨rfl,af⟩
 have h4':¬(4000:Int)<(l.length:Int):=by omega
 have H4:=yq h4;have HWF:Hid (∀w' k,w.Grows w'->k<l.length->Calls prog 123 #[.agg #[.slice ai l.length ci,.slice as' sl.length cs'],.int .i64 k] w' fun e w''=>e= .returned (.bool (wfF sl.length l.length k (l.getD k default)))/\w'.Grows w''):=yq (fun w' k hg hk=>rH l sl _ _ k w' (HI.out.grows hg) (HS.out.grows hg) hk);clear h4
 go_enter func66,ntmps66
 go_upto_block 0 with fail
 go_cut [2,3,4]from 10 (fun v2 v3 _ wx=>v2= .int .i64 0/\v3= .int .i64 0/\(∀k,k<l.length->wfF sl.length l.length k (l.getD k default)=true)/\World.Grows ((w.alloc (.cells #[.slice ai l.length ci,.slice as' sl.length cs'] 58))) wx)
 case first=>
  go_wp2_with fail
  go_loopw [2,3,17] (fun v2 v3 v17 wr=>∃k:Nat,k<=l.length/\v17= .int .i64 k/\v2= .int .i64 0/\v3= .int .i64 0/\Hid (∀j,j<k->wfF sl.length l.length j (l.getD j default)=true)/\World.Grows ((w.alloc (.cells #[.slice ai l.length ci,.slice as' sl.length cs'] 58))) wr) (fun _ _ v17 _=>l.length-(intOf v17).toNat)
  case atStart=>exact⟨0,by omega,rfl,rfl,rfl,yq (fun j hj=>by omega),af⟩
  case round=>
   obtain⟨k,hk,rfl,rfl,rfl,HK,hg0⟩:=hrel;have HG0:=yq hg0;have hg:w.Grows wr:=gqq af hg0;have HG:=yq hg
   have cb0:wr.cell? ⟨w.heap.size,0,none⟩=some (.slice ai l.length ci):=by
    rw [World.cell?_of_block (hg0.below.block _ ze),World.cell?_alloc_at _ _ _ _ rfl];rfl
   have cb1:wr.cell? ⟨w.heap.size,1,none⟩=some (.slice as' sl.length cs'):=by
    rw [World.cell?_of_block (hg0.below.block _ ze),World.cell?_alloc_at _ _ _ _ rfl];rfl
   have hwr:w.heap.size<wr.heap.size:=by have:=hg0.below.size;simp at this;omega
   by_cases hlt:k<l.length
   ·have d1:(k:Int)<(l.length:Int):=by omega
    have HC:=yq (fun w' (hg':wr.Grows w')=>HWF.out w' k (gqq HG.out hg') hlt);have HLT:=yq hlt
    cases hw:wfF sl.length l.length k (l.getD k default)with
    |false=>
     rw [hw]at HC;have HV:=yq (xW (CF hlt hw));clear hw hg hg0 hlt
     go_wp2_with (go_at_call 123;refine gvq (HC.out _ af) ?_;intro bs d)
     go_returns
     rw [HV.out];exact⟨rfl,gqq HG.out af⟩
    |true=>
     rw [hw]at HC
     have HN:Hid (∀j,j<k+1->wfF sl.length l.length j (l.getD j default)=true):=yq (fun j hj=>by
      by_cases e:j=k
      ·subst e;exact hw
      ·exact HK.out j zb)
     clear hw hg hg0 hlt
     go_wp2_with (go_at_call 123;refine gvq (HC.out _ af) ?_;intro bs d)
     go_roundw
     case rel=>exact⟨k+1,HLT.out,by go_num,rfl,rfl,HN,gqq HG0.out af⟩
     case measure=>simp [intOf];have:=HLT.out;omega
   ·obtain rfl:k=l.length:=by omega
    clear hg hg0 hlt hk
    go_wp2_with fail
    go_meet
    exact⟨rfl,rfl,HK.out,HG0.out⟩
 obtain⟨rfl,rfl,hwf,hg0⟩:=hcut;have HWA:=yq hwf;have hg:w.Grows wc:=gqq af hg0;have HG:=yq hg
 have cb0:wc.cell? ⟨w.heap.size,0,none⟩=some (.slice ai l.length ci):=by
  exact Kg
 have cb1:wc.cell? ⟨w.heap.size,1,none⟩=some (.slice as' sl.length cs'):=by
  exact Kg
 have hwc:w.heap.size<wc.heap.size:=by have:=hg0.below.size;simp at this;omega
 have HSO:Hid (∀w',wc.Grows w'->Calls prog 124 #[.agg #[.slice ai l.length ci,.slice as' sl.length cs']] w' fun e w''=>e= .returned (.bool (dX sl&&decide (dK l).Nodup))/\w'.Grows w''):=yq (fun w' hg'=>Gw l sl _ _ w' (HI.out.grows (gqq HG.out hg')) (HS.out.grows (gqq HG.out hg')) (fun hs i hi ho=>by
  have h1:=HWA.out i hi;have h2:=(dH h1 zb).2.2.1 (.inr ho)
  omega))
 cases hok:dX sl&&decide (dK l).Nodup with
 |false=>
  rw [hok]at HSO;have HV:=yq (xW (l6 (l:=l) hok));clear hok hwf hg hg0
  go_wp2_with (go_at_call 124;refine gvq (HSO.out _ af) ?_;intro bs d)
  go_returns
  rw [HV.out];exact⟨rfl,gqq HG.out af⟩
 |true=>
  rw [hok]at HSO;have hform:=wP zb hwf hok;have H12:=yq (JM (by rw [Bool.and_eq_true]at hok;exact hok.1));have HVA:Hid (dO l sl=goA l 0 (S0 l.length) (List.replicate 12 0) 0):=yq (by unfold dO;rw [if_pos hform];rfl);have hmk:=BU l.length zb;clear hok hwf hg hform
  go_upto_region 12 with (go_at_call 124;refine gvq (HSO.out _ af) ?_;intro bs d)
  obtain⟨W0,hW0⟩:∃W0,wc.grow bs d=W0:=⟨_,rfl⟩;have hNS:wc.heap.size+bs.size=W0.heap.size:=by rw [<-hW0];simp
  rw [hW0,hNS];have HG1:Hid (w.Grows W0):=yq (by rw [<-hW0];exact gqq HG.out af);have hc0:W0.cell? ⟨w.heap.size,0,none⟩=some (.slice ai l.length ci):=by rw [<-hW0];exact(World.cell?_grow _ _ _ hwc).trans cb0
  have hX0:w.heap.size<W0.heap.size:=by omega
  obtain⟨W1,hW1⟩:∃W1,W0.alloc (.cells (madeCells stZ ((l.length+1)*14)) 190)=W1:=⟨_,rfl⟩;rw [hW1];have hz1:W1.heap.size=W0.heap.size+1:=by rw [<-hW1];simp
  have hs0:W1.cell? ⟨W0.heap.size,0,none⟩=some (.bool false):=by
   have:=nH (w:=W0) (z:=stZ) (n:=l.length+1) (sz:=14) (j:=0) (e:=190) rfl zf zb 0 (.bool false) rfl;rw [hW1]at this;simpa using this
  have hsf:W1.frozen? ⟨W0.heap.size,0,none⟩=false:=by rw [<-hW1];exact World.frozen?_alloc_at _ _ _ _ rfl
  have hc1:W1.cell? ⟨w.heap.size,0,none⟩=some (.slice ai l.length ci):=by rw [<-hW1];exact(World.cell?_alloc_lt W0 _ ⟨w.heap.size,0,none⟩ hX0).trans hc0
  have HW1:=yq hW1.symm;have hNX:W0.heap.size≠w.heap.size:=by omega
  clear hW1 hW0 cb0 cb1 hc0 hNS hmk hwc
  go_wp2_with fail
  go_loopw [2,39] (fun v2 v39 wr=>∃(i:Nat) (S:List (Option (List Int × List Bool))) (R:Nat->Value) (dims:List Int) (dep:Nat),i<=l.length/\v39= .int .i64 i/\v2= .int .i64 dep/\dep<=24/\mV l.length W0.heap.size (W0.heap.size+1) W0 i S R dims wr/\Hid (goA (l.drop i) i S dims dep=dO l sl)) (fun _ v39 _=>l.length-(intOf v39).toNat)
  case atStart=>
   exact⟨0,S0 l.length,_,_,0,by omega,rfl,rfl,by omega,mV.start l.length W0 W1 _ HW1.out rfl,yq (by rw [drop_zero,HVA.out])⟩
  case round=>
   obtain⟨i,S,R,dims,dep,hi,rfl,rfl,hd24,hv,HGO⟩:=hrel;have HV:=yq hv;have hlow:=hv.lo;have HG2:Hid (w.Grows wr):=yq (gqq HG1.out (.of_below hlow))
   have cb:wr.cell? ⟨w.heap.size,0,none⟩=some (.slice ai l.length ci):=by
    have:=World.cell?_of_block (a:=⟨w.heap.size,0,none⟩) (hlow.block _ hX0);rw [this,<-World.cell?_of_block (a:=⟨w.heap.size,0,none⟩) ((show Below W0.heap.size W0 W1 from by rw [HW1.out];exact(Below.refl _ _).alloc (Nat.le_refl _) _).block _ hX0)];exact hc1
   have hsz:=hv.sz;have hNSr:W0.heap.size<wr.heap.size:=by omega
   have hXr:w.heap.size<wr.heap.size:=by omega
   clear hlow;by_cases hlt:i<l.length
   ·rcases HIX.out with h0|⟨b,off,rfl,hb,hx⟩
    ·omega
    have d1:(i:Int)<(l.length:Int):=by omega
    obtain⟨-,x0,x1,x2,x3⟩:=hx i hlt;have e:∀o,wr.cell? ⟨b,o,none⟩=w.cell? ⟨b,o,none⟩:=fun o=>World.cell?_of_block (HG2.out.below.block b hb);have y0:=(e _).trans x0;have y1:=(e _).trans x1;have y2:=(e _).trans x2;have y3:=(e _).trans x3;have hbr:b<wr.heap.size:=by have:=HG2.out.below.size;omega
    have HXW:=yq (HWA.out i hlt);have HLT:=yq hlt;have HDR:Hid (l.drop i=l.getD i default::l.drop (i+1)):=yq xq;have hst:=hv.st i zb;clear e x0 x1 x2 x3 hx;obtain⟨x,hxe⟩:∃x,l.getD i default=x:=⟨_,rfl⟩;rw [hxe]at y0 y1 y2 y3 HXW HDR;clear hxe;rw [HDR.out]at HGO
    cases hsi:S.getD i none with
    |none=>
     rw [hsi]at hst;obtain⟨bs,hbl,hcs⟩:=hst;obtain⟨b0,b1,b2,b3,b4,b5,b6,b7,b8,b9,b10,b11,rfl⟩:=twelve hbl;have z0:=hcs 0 _ rfl;have z1:=hcs 1 _ rfl;have z2:=hcs 2 _ rfl;have z3:=hcs 3 _ rfl;have z4:=hcs 4 _ rfl;have z5:=hcs 5 _ rfl;have z6:=hcs 6 _ rfl;have z7:=hcs 7 _ rfl;have z8:=hcs 8 _ rfl;have z9:=hcs 9 _ rfl;have z10:=hcs 10 _ rfl;have z11:=hcs 11 _ rfl;have z12:=hcs 12 _ rfl;have z13:=hcs 13 _ rfl;rw [Nat.add_zero]at z0;have HR:Hid (dO l sl=(0,8)):=yq (by rw [<-HGO.out,goA];unfold iU;rw [hsi]);clear hsi hbl hcs hv
     go_wp2_with fail
     go_returns
     rw [HR.out];exact⟨rfl,gqq HG2.out af⟩
    |some s=>
     rw [hsi]at hst;obtain⟨hbl,hcs⟩:=hst;obtain⟨b0,b1,b2,b3,b4,b5,b6,b7,b8,b9,b10,b11,hbs⟩:=twelve hbl;obtain⟨hrow,hl24,hrng⟩:=hv.row i s (Nat.le_refl _) hsi
     obtain⟨ra,rc,hRi⟩:∃a c,R i= .slice a s.1.length c:=by
      rcases fU hrow with ⟨e1,e2⟩|⟨g,cap,e1,-⟩
      ·exact⟨none,0,by rw [e2];exact e1⟩
      ·exact⟨_,_,e1⟩
     have hAI:jV (wr.heap.size+1) (W0.heap.size+1) (W0.heap.size+1+1) (R i) s dims (((wr.alloc (.cells #[.int .i64 x.op,.int .i64 x.a,.int .i64 x.n,.int .i64 x.d] 118)).alloc (.cells #[.bool true,.slice ra s.1.length rc,.bool b0,.bool b1,.bool b2,.bool b3,.bool b4,.bool b5,.bool b6,.bool b7,.bool b8,.bool b9,.bool b10,.bool b11] 190))):=
      hv.now hsi af zb ze ⟨hbl,fun j u hu=>by
       have e:(wr.alloc (.cells #[.int .i64 x.op,.int .i64 x.a,.int .i64 x.n,.int .i64 x.d] 118)).heap.size=wr.heap.size+1:=by simp
       rw [<-e,Nat.zero_add,cell_of_row _ _ _ _ _ _ (heap_alloc_new _ _)];rw [hRi,hbs]at hu
       simpa using hu⟩ (fun o=>World.frozen?_alloc_at _ _ _ _ ze)
     have hTab:Tab (((wr.alloc (.cells #[.int .i64 x.op,.int .i64 x.a,.int .i64 x.n,.int .i64 x.d] 118)).alloc (.cells #[.bool true,.slice ra s.1.length rc,.bool b0,.bool b1,.bool b2,.bool b3,.bool b4,.bool b5,.bool b6,.bool b7,.bool b8,.bool b9,.bool b10,.bool b11] 190))):=HT.out.grows (gqq HG2.out af);have HAP:=yq (Jq hInf (wr.heap.size+1) (W0.heap.size+1) (W0.heap.size+1+1) sl.length l.length i (R i) s dims x (((wr.alloc (.cells #[.int .i64 x.op,.int .i64 x.a,.int .i64 x.n,.int .i64 x.d] 118)).alloc (.cells #[.bool true,.slice ra s.1.length rc,.bool b0,.bool b1,.bool b2,.bool b3,.bool b4,.bool b5,.bool b6,.bool b7,.bool b8,.bool b9,.bool b10,.bool b11] 190))) hAI hrng.stk H12.out hv.rd.1 hTab HXW.out);have HAI:=yq hAI;have HRNG:=yq hrng;have HSI:=yq hsi;have HRI:=yq hRi;have HBS:=yq hbs;have HL24:=yq hl24;have hownR:∀g,(R i).ownBlock=some g->W0.heap.size+1+1<=g/\g<wr.heap.size:=fun g hg=>hrow.lt g hg;have HOR:=yq hownR
     have HGW:Hid (∀w2,aV (fun k=>k=wr.heap.size+1\/k=W0.heap.size+1\/(R i).ownBlock=some k) (((wr.alloc (.cells #[.int .i64 x.op,.int .i64 x.a,.int .i64 x.n,.int .i64 x.d] 118)).alloc (.cells #[.bool true,.slice ra s.1.length rc,.bool b0,.bool b1,.bool b2,.bool b3,.bool b4,.bool b5,.bool b6,.bool b7,.bool b8,.bool b9,.bool b10,.bool b11] 190))) w2->w.Grows w2):=yq (fun w2 hm=>gqq HG1.out (.of_below (hm.below (HV.out.lo.trans ((af:wr.Grows (((wr.alloc (.cells #[.int .i64 x.op,.int .i64 x.a,.int .i64 x.n,.int .i64 x.d] 118)).alloc (.cells #[.bool true,.slice ra s.1.length rc,.bool b0,.bool b1,.bool b2,.bool b3,.bool b4,.bool b5,.bool b6,.bool b7,.bool b8,.bool b9,.bool b10,.bool b11] 190)))).below.mono zb)) zg (fun k q=>by
      rcases q with q|q|q
      ·omega
      ·omega
      ·have:=(HOR.out k q).1;omega))))
     rw [hRi,hbs]at hcs;have z0:=hcs 0 _ rfl;have z1:=hcs 1 _ rfl;have z2:=hcs 2 _ rfl;have z3:=hcs 3 _ rfl;have z4:=hcs 4 _ rfl;have z5:=hcs 5 _ rfl;have z6:=hcs 6 _ rfl;have z7:=hcs 7 _ rfl;have z8:=hcs 8 _ rfl;have z9:=hcs 9 _ rfl;have z10:=hcs 10 _ rfl;have z11:=hcs 11 _ rfl;have z12:=hcs 12 _ rfl;have z13:=hcs 13 _ rfl;rw [Nat.add_zero]at z0;clear hrow hAI hTab hownR hbl hcs hrng hsi hbs hRi hv
     cases hap:bN x s dims with
     |none=>
      rw [hap]at HAP;have HR:Hid (dO l sl=(0,8)):=yq (by rw [<-HGO.out,goA];unfold iU;simp only [HSI.out,hap]);clear hap
      go_wp2_with (go_at_call 125;refine HAP.out.mono ?_;rintro e' w2 ⟨rfl,hm⟩;have HM:=yq (HGW.out _ hm);clear hm)
      go_returns
      rw [HR.out];exact⟨rfl,gqq HM.out af⟩
     |some p=>
      obtain⟨s',dims'⟩:=p;rw [hap]at HAP;have hRA:=Mr HXW.out H12.out HRNG.out HV.out.rd hap;have HRA:=yq hRA
      have HAF:Hid (∀v' w2,iJ (wr.heap.size+1) (W0.heap.size+1) (W0.heap.size+1+1) (R i) v' s' dims' (((wr.alloc (.cells #[.int .i64 x.op,.int .i64 x.a,.int .i64 x.n,.int .i64 x.d] 118)).alloc (.cells #[.bool true,.slice ra s.1.length rc,.bool b0,.bool b1,.bool b2,.bool b3,.bool b4,.bool b5,.bool b6,.bool b7,.bool b8,.bool b9,.bool b10,.bool b11] 190))) w2->Aft l.length W0.heap.size (W0.heap.size+1) wr.heap.size (wr.heap.size+1) W0 w (w.heap.size,.slice (some ⟨b,off,none⟩) l.length ci) (i+1) S R dims' v' s' x w2):=yq (fun v' w2 hr=>by
       have hz2:=hr.mods.size;have hz2':wr.heap.size+2<=w2.heap.size:=by simp at hz2;omega
       have hP:∀k,(k=wr.heap.size+1\/k=W0.heap.size+1\/(R i).ownBlock=some k)->W0.heap.size+1<=k/\k≠wr.heap.size:=fun k q=>by
        rcases q with q|q|q
        ·omega
        ·omega
        ·have:=HOR.out k q;omega
       refine⟨HV.out.applied HSI.out af zb hr hRA.2.1 hRA.2.2,hr.st,hr.row, ?_,by omega,by omega,by omega,hX0, ?_,HGW.out _ hr.mods⟩
       ·intro j u hu;rw [hr.mods.cell (k:=wr.heap.size) zg (fun q=>(hP _ q).2 rfl) (0+j),World.cell?_alloc_lt _ _ ⟨wr.heap.size,0+j,none⟩ ze,Nat.zero_add,cell_of_row _ _ _ _ _ _ (heap_alloc_new _ _)];simpa using hu
       ·rw [hr.mods.cell (k:=w.heap.size) zg (fun q=>by have:=(hP _ q).1;omega) 0,World.cell?_alloc_lt _ _ ⟨w.heap.size,0,none⟩ zg,World.cell?_alloc_lt _ _ ⟨w.heap.size,0,none⟩ hXr]
        exact cb)
      obtain⟨zs,cs⟩:=s'
      (try dsimp only at HAF HRA hap)
      obtain⟨c0,c1,c2,c3,c4,c5,c6,c7,c8,c9,c10,c11,rfl⟩:=twelve HRA.out.1.len;by_cases h24:24<zs.length
      ·have HR:Hid (dO l sl=(0,8)):=yq (by rw [<-HGO.out,goA];unfold iU;simp only [HSI.out,hap];rw [if_pos h24]);have d24:(24:Int)<(zs.length:Int):=by omega
       clear hap hRA h24
       go_wp2_with ((go_at_call 125;refine HAP.out.mono ?_;rintro e' w2 ⟨rfl,v',hr⟩;have ha:=HAF.out _ _ hr;have HA:=yq ha;obtain⟨va,vc,hva⟩:=kr ha.row;subst hva;have hcn:=ha.nb.2;have n0:=hcn 0 _ rfl;have n1:=hcn 1 _ rfl;have n2:=hcn 2 _ rfl;have n3:=hcn 3 _ rfl;have n4:=hcn 4 _ rfl;have n5:=hcn 5 _ rfl;have n6:=hcn 6 _ rfl;have n7:=hcn 7 _ rfl;have n8:=hcn 8 _ rfl;have n9:=hcn 9 _ rfl;have n10:=hcn 10 _ rfl;have n11:=hcn 11 _ rfl;have n12:=hcn 12 _ rfl;have n13:=hcn 13 _ rfl;have xx0:=ha.xb 0 _ rfl;have xx1:=ha.xb 1 _ rfl;simp only [Nat.zero_add]at n0 n1 n2 n3 n4 n5 n6 n7 n8 n9 n10 n11 n12 n13 xx0 xx1;have hz2:=ha.hz;have cb2:=ha.cbc;have hxz:wr.heap.size<w2.heap.size:=zb;have hNS2:=ha.inv.sz;dsimp only at cb2;clear hr ha hcn))
       go_returns
       rw [HR.out];exact⟨rfl,gqq HA.out.gr af⟩
      ·have d24:¬(24:Int)<(zs.length:Int):=by omega
       have H24:=yq h24;have hwW:w.heap.size<=W0.heap.size:=by omega
       have HMG:Hid (∀(S1:List (Option (List Int × List Bool))) (R1:Nat->Value) v1 wa wb k,Aft l.length W0.heap.size (W0.heap.size+1) wr.heap.size (wr.heap.size+1) W0 w (w.heap.size,.slice (some ⟨b,off,none⟩) l.length ci) (i+1) S1 R1 dims' v1 (zs,[c0,c1,c2,c3,c4,c5,c6,c7,c8,c9,c10,c11]) x wa->wa.Grows wb->i+1<=k->k<=l.length->Calls prog 126 #[.pointer (some ⟨W0.heap.size,k*14,none⟩),.agg #[.bool true,v1,.bool c0,.bool c1,.bool c2,.bool c3,.bool c4,.bool c5,.bool c6,.bool c7,.bool c8,.bool c9,.bool c10,.bool c11]] wb fun e w'=>(e= .returned (.bool false)/\fG S1 k (zs,[c0,c1,c2,c3,c4,c5,c6,c7,c8,c9,c10,c11])=none/\w.Grows w')\/(e= .returned (.bool true)/\∃S' R',fG S1 k (zs,[c0,c1,c2,c3,c4,c5,c6,c7,c8,c9,c10,c11])=some S'/\Aft l.length W0.heap.size (W0.heap.size+1) wr.heap.size (wr.heap.size+1) W0 w (w.heap.size,.slice (some ⟨b,off,none⟩) l.length ci) (i+1) S' R' dims' v1 (zs,[c0,c1,c2,c3,c4,c5,c6,c7,c8,c9,c10,c11]) x w')):=yq (fun S1 R1 v1 wa wb k ha hg hk hkn=>(ha.grows hg).merge hwW k hk hkn HRA.out.1 (by have:=H24.out;show zs.length<=24;omega) c0 c1 c2 c3 c4 c5 c6 c7 c8 c9 c10 c11 rfl);clear hRA h24;by_cases o21:x.op=21
       ·have b21:(x.op==21)=true:=by simpa using o21
        have b21n:(x.op !=21)=false:=by simp [o21]
        have hja:=(dH HXW.out zb).2.2.2.2.1 (.inl o21);have hj0:0<=x.a:=by omega
        have hj1:x.a<(l.length:Int)+1:=by omega
        have HJ:Hid (i+1<=x.a.toNat/\x.a.toNat<=l.length):=yq zb;have HO:=yq o21;have HAP2:=yq hap;clear o21 hap hja
        go_wp2_with ((go_at_call 125;refine HAP.out.mono ?_;rintro e' w2 ⟨rfl,v',hr⟩;have ha:=HAF.out _ _ hr;have HA:=yq ha;obtain⟨va,vc,hva⟩:=kr ha.row;subst hva;have hcn:=ha.nb.2;have n0:=hcn 0 _ rfl;have n1:=hcn 1 _ rfl;have n2:=hcn 2 _ rfl;have n3:=hcn 3 _ rfl;have n4:=hcn 4 _ rfl;have n5:=hcn 5 _ rfl;have n6:=hcn 6 _ rfl;have n7:=hcn 7 _ rfl;have n8:=hcn 8 _ rfl;have n9:=hcn 9 _ rfl;have n10:=hcn 10 _ rfl;have n11:=hcn 11 _ rfl;have n12:=hcn 12 _ rfl;have n13:=hcn 13 _ rfl;have xx0:=ha.xb 0 _ rfl;have xx1:=ha.xb 1 _ rfl;simp only [Nat.zero_add]at n0 n1 n2 n3 n4 n5 n6 n7 n8 n9 n10 n11 n12 n13 xx0 xx1;have hz2:=ha.hz;have cb2:=ha.cbc;have hxz:wr.heap.size<w2.heap.size:=zb;have hNS2:=ha.inv.sz;dsimp only at cb2;clear hr ha hcn))
        refine TS.begin [11] (World.Grows w2) zd zd aj (fun hS=>?_);refine kq 0 hS ?_;refine kq 1 hS ?_;refine kq 2 hS ?_;refine kq 3 hS ?_;refine TS.take (i:=4) (v:=undef) rfl zd zd zd zf (fun _ _ _ h=>h) (.inl ⟨rfl,rfl⟩) hS ?_
        (try simp only [nS])
        refine TS.take (i:=5) (v:=undef) rfl zd zd zd zf (fun _ _ _ h=>h) (.inl ⟨rfl,rfl⟩) hS ?_
        (try simp only [nS])
        refine TS.take (i:=6) (v:=undef) rfl zd zd zd zf (fun _ _ _ h=>h) (.inl ⟨rfl,rfl⟩) hS ?_
        (try simp only [nS])
        refine TS.take (i:=7) (v:=undef) rfl zd zd zd zf (fun _ _ _ h=>h) (.inl ⟨rfl,rfl⟩) hS ?_
        (try simp only [nS])
        refine TS.take (i:=8) (v:=undef) rfl zd zd zd zf (fun _ _ _ h=>h) (.inl ⟨rfl,rfl⟩) hS ?_
        (try simp only [nS])
        refine TS.take (i:=9) (v:=undef) rfl zd zd zd zf (fun _ _ _ h=>h) (.inl ⟨rfl,rfl⟩) hS ?_
        (try simp only [nS])
        refine TS.take (i:=10) (v:=undef) rfl zd zd zd zf (fun _ _ _ h=>h) (.inl ⟨rfl,rfl⟩) hS ?_
        (try simp only [nS])
        refine TS.weB 11 ?_;clear hS
        go_wp2_with fail
        refine TS.begin [14,15,16] (World.Grows w2) zd zd aj (fun hS=>?_);refine kq 0 hS ?_;refine kq 1 hS ?_;refine kq 2 hS ?_;refine kq 3 hS ?_;refine TS.take (i:=4) (v:=undef) rfl zd zd zd zf (fun _ _ _ h=>h) (.inl ⟨rfl,rfl⟩) hS ?_
        (try simp only [nS])
        refine TS.take (i:=5) (v:=undef) rfl zd zd zd zf (fun _ _ _ h=>h) (.inl ⟨rfl,rfl⟩) hS ?_
        (try simp only [nS])
        refine TS.take (i:=6) (v:=undef) rfl zd zd zd zf (fun _ _ _ h=>h) (.inl ⟨rfl,rfl⟩) hS ?_
        (try simp only [nS])
        refine kq 7 hS ?_;refine kq 8 hS ?_;refine kq 9 hS ?_;refine kq 10 hS ?_;refine kq 11 hS ?_;refine kq 12 hS ?_;refine kq 13 hS ?_;refine TS.one (i:=14) zd rfl (fun K1 hK1=>?_);have HK1:=yq hK1;clear hK1 hS;dsimp only [getElem_toArray,getElem_cons_succ,getElem_cons_zero]
        go_simp
        go_at_call 126
        refine(HMG.out S R _ w2 _ x.a.toNat HA.out af HJ.out.1 HJ.out.2).mono ?_;rintro e' w3 (⟨rfl,hp,hg3⟩|⟨rfl,S1,R1,hp,ha3⟩)
        ·have HR:Hid (dO l sl=(0,8)):=yq (by rw [<-HGO.out];exact Av (D5 HSI.out HAP2.out H24.out HO.out hp));have HG3:=yq hg3;clear hp hg3;refine HK1.out _ _ (fun h=>absurd zf h) ?_;clear HK1 K1
         (try simp only [nS])
         refine TS.wtB 15 ?_;refine TS.one (i:=16) zd rfl (fun K1 hK1=>?_)
         go_simp
         refine hK1 _ _ (fun h=>absurd zf h) (TS.done zd ?_);clear hK1 K1
         (try simp only [nS])
         go_wp2_with fail
         go_returns
         rw [HR.out];exact⟨rfl,gqq HG3.out af⟩
        ·have HGN:Hid (goA (l.drop (i+1)) (i+1) S1 dims' (max dep zs.length)=dO l sl):=yq (by rw [<-HGO.out];exact(Au (DZ HSI.out HAP2.out H24.out HO.out hp)).symm);have HA3:=yq ha3;clear hp ha3;refine HK1.out _ _ (fun h=>absurd zf h) ?_;clear HK1 K1
         (try simp only [nS])
         refine TS.wtB 15 ?_;refine TS.one (i:=16) zd rfl (fun K1 hK1=>?_)
         go_simp
         refine hK1 _ _ (fun h=>absurd zf h) (TS.done zd ?_);clear hK1 K1
         (try simp only [nS])
         go_wp2_with fail
         go_roundw
         case rel=>exact⟨i+1,_,_,dims',max dep zs.length,HLT.out,by go_num,by first|(simp;done)|(simp;omega),by have:=H24.out;omega,HA3.out.inv.grows af,HGN⟩
         case measure=>simp [intOf];have:=HLT.out;omega
       ·by_cases o22:x.op=22
        ·have b21:(x.op==21)=false:=by simpa using o21
         have b22:(x.op==22)=true:=by simpa using o22
         have b21n:(x.op !=21)=true:=by simp [o21]
         have hja:=(dH HXW.out zb).2.2.2.2.1 (.inr o22);have hj0:0<=x.a:=by omega
         have hj1:x.a<(l.length:Int)+1:=by omega
         have HJ:Hid (i+1<=x.a.toNat/\x.a.toNat<=l.length):=yq zb;have HO:=yq (And.intro o21 o22);obtain⟨q,hq⟩:∃q,i+1=q:=⟨_,rfl⟩;have hqw:IntKind.i64.wrap ((i:Int)+1)=(q:Int):=by rw [<-hq,IntWalk.i64_in _ zb];rfl
         have hq0:(0:Int)<=(q:Int):=by omega
         have hq1:(q:Int)<(l.length:Int)+1:=by omega
         have HQ:=yq hq;have HAP2:=yq hap;clear o21 o22 hap hq hja
         go_wp2_with ((go_at_call 125;refine HAP.out.mono ?_;rintro e' w2 ⟨rfl,v',hr⟩;have ha:=HAF.out _ _ hr;have HA:=yq ha;obtain⟨va,vc,hva⟩:=kr ha.row;subst hva;have hcn:=ha.nb.2;have n0:=hcn 0 _ rfl;have n1:=hcn 1 _ rfl;have n2:=hcn 2 _ rfl;have n3:=hcn 3 _ rfl;have n4:=hcn 4 _ rfl;have n5:=hcn 5 _ rfl;have n6:=hcn 6 _ rfl;have n7:=hcn 7 _ rfl;have n8:=hcn 8 _ rfl;have n9:=hcn 9 _ rfl;have n10:=hcn 10 _ rfl;have n11:=hcn 11 _ rfl;have n12:=hcn 12 _ rfl;have n13:=hcn 13 _ rfl;have xx0:=ha.xb 0 _ rfl;have xx1:=ha.xb 1 _ rfl;simp only [Nat.zero_add]at n0 n1 n2 n3 n4 n5 n6 n7 n8 n9 n10 n11 n12 n13 xx0 xx1;have hz2:=ha.hz;have cb2:=ha.cbc;have hxz:wr.heap.size<w2.heap.size:=zb;have hNS2:=ha.inv.sz;dsimp only at cb2;clear hr ha hcn))
         refine TS.begin [9,10,11] (World.Grows w2) zd zd aj (fun hS=>?_);refine kq 0 hS ?_;refine kq 1 hS ?_;refine kq 2 hS ?_;refine kq 3 hS ?_;refine kq 4 hS ?_;refine kq 5 hS ?_;refine kq 6 hS ?_;refine kq 7 hS ?_;refine kq 8 hS ?_;refine TS.one (i:=9) zd rfl (fun K1 hK1=>?_);have HK1:=yq hK1;clear hK1 hS;dsimp only [getElem_toArray,getElem_cons_succ,getElem_cons_zero]
         go_simp
         go_at_call 126
         refine(HMG.out S R _ w2 _ q HA.out af (by have:=HQ.out;omega) (by have:=HQ.out;have:=HLT.out;omega)).mono ?_;rintro e' w3 (⟨rfl,hp,hg3⟩|⟨rfl,S1,R1,hp,ha3⟩)
         ·have HR:Hid (dO l sl=(0,8)):=yq xp;have HG3:=yq hg3;clear hp hg3;refine HK1.out _ _ (fun h=>absurd zf h) ?_;clear HK1 K1
          (try simp only [nS])
          refine TS.wtB 10 ?_;refine TS.one (i:=11) zd rfl (fun K1 hK1=>?_)
          go_simp
          refine hK1 _ _ (fun h=>absurd zf h) (TS.done zd ?_);clear hK1 K1
          (try simp only [nS])
          go_wp2_with fail
          go_returns
          rw [HR.out];exact⟨rfl,gqq HG3.out af⟩
         ·have HA3:=yq ha3;have ww0:=ha3.xb 0 _ rfl;have ww1:=ha3.xb 1 _ rfl;have m0:=ha3.nb.2 0 _ rfl;have m1:=ha3.nb.2 1 _ rfl;have m2:=ha3.nb.2 2 _ rfl;have m3:=ha3.nb.2 3 _ rfl;have m4:=ha3.nb.2 4 _ rfl;have m5:=ha3.nb.2 5 _ rfl;have m6:=ha3.nb.2 6 _ rfl;have m7:=ha3.nb.2 7 _ rfl;have m8:=ha3.nb.2 8 _ rfl;have m9:=ha3.nb.2 9 _ rfl;have m10:=ha3.nb.2 10 _ rfl;have m11:=ha3.nb.2 11 _ rfl;have m12:=ha3.nb.2 12 _ rfl;have m13:=ha3.nb.2 13 _ rfl;simp only [Nat.zero_add]at ww0 ww1 m0 m1 m2 m3 m4 m5 m6 m7 m8 m9 m10 m11 m12 m13;have hz3:=ha3.hz;have hxz3:wr.heap.size<w3.heap.size:=by omega
          have cb3:=ha3.cbc;dsimp only at cb3;have HP:=yq hp;clear hp ha3;refine HK1.out _ _ (fun h=>absurd zf h) ?_;clear HK1 K1
          (try simp only [nS])
          refine TS.wtB 10 ?_;refine TS.one (i:=11) zd rfl (fun K1 hK1=>?_)
          go_simp
          refine hK1 _ _ (fun h=>absurd zf h) (TS.done zd ?_);clear hK1 K1
          (try simp only [nS])
          go_wp2_with fail
          refine TS.begin [14,15,16] (World.Grows w3) zd zd aj (fun hS=>?_);refine kq 0 hS ?_;refine kq 1 hS ?_;refine kq 2 hS ?_;refine kq 3 hS ?_;refine kq 4 hS ?_;refine kq 5 hS ?_;refine kq 6 hS ?_;refine kq 7 hS ?_;refine kq 8 hS ?_;refine kq 9 hS ?_;refine kq 10 hS ?_;refine kq 11 hS ?_;refine kq 12 hS ?_;refine kq 13 hS ?_;refine TS.one (i:=14) zd rfl (fun K1 hK1=>?_);have HK1:=yq hK1;clear hK1 hS;dsimp only [getElem_toArray,getElem_cons_succ,getElem_cons_zero]
          go_simp
          go_at_call 126
          refine(HMG.out S1 R1 _ w3 _ x.a.toNat HA3.out af HJ.out.1 HJ.out.2).mono ?_;rintro e' w4 (⟨rfl,hp,hg3⟩|⟨rfl,S2,R2,hp,ha4⟩)
          ·have HR:Hid (dO l sl=(0,8)):=yq (by rw [<-HGO.out];exact Av (DY HSI.out HAP2.out H24.out HO.out.2 (by rw [HQ.out];exact HP.out) hp));have HG3:=yq hg3;clear hp hg3;refine HK1.out _ _ (fun h=>absurd zf h) ?_;clear HK1 K1
           (try simp only [nS])
           refine TS.wtB 15 ?_;refine TS.one (i:=16) zd rfl (fun K1 hK1=>?_)
           go_simp
           refine hK1 _ _ (fun h=>absurd zf h) (TS.done zd ?_);clear hK1 K1
           (try simp only [nS])
           go_wp2_with fail
           go_returns
           rw [HR.out];exact⟨rfl,gqq HG3.out af⟩
          ·have HGN:Hid (goA (l.drop (i+1)) (i+1) S2 dims' (max dep zs.length)=dO l sl):=yq (by rw [<-HGO.out];exact(Au (DX HSI.out HAP2.out H24.out HO.out.2 (by rw [HQ.out];exact HP.out) hp)).symm);have HA4:=yq ha4;clear hp ha4;refine HK1.out _ _ (fun h=>absurd zf h) ?_;clear HK1 K1
           (try simp only [nS])
           refine TS.wtB 15 ?_;refine TS.one (i:=16) zd rfl (fun K1 hK1=>?_)
           go_simp
           refine hK1 _ _ (fun h=>absurd zf h) (TS.done zd ?_);clear hK1 K1
           (try simp only [nS])
           go_wp2_with fail
           go_roundw
           case rel=>exact⟨i+1,_,_,dims',max dep zs.length,HLT.out,by rw [<-HQ.out],by first|(simp;done)|(simp;omega),by have:=H24.out;omega,HA4.out.inv.grows af,HGN⟩
           case measure=>simp [intOf];have:=HLT.out;have:=HQ.out;omega
        ·have b21:(x.op==21)=false:=by simpa using o21
         have b22:(x.op==22)=false:=by simpa using o22
         have b21n:(x.op !=21)=true:=by simp [o21]
         have HO:=yq (And.intro o21 o22);obtain⟨q,hq⟩:∃q,i+1=q:=⟨_,rfl⟩;have hqw:IntKind.i64.wrap ((i:Int)+1)=(q:Int):=by rw [<-hq,IntWalk.i64_in _ zb];rfl
         have hq0:(0:Int)<=(q:Int):=by omega
         have hq1:(q:Int)<(l.length:Int)+1:=by omega
         have HQ:=yq hq;have HAP2:=yq hap;clear o21 o22 hap hq
         go_wp2_with ((go_at_call 125;refine HAP.out.mono ?_;rintro e' w2 ⟨rfl,v',hr⟩;have ha:=HAF.out _ _ hr;have HA:=yq ha;obtain⟨va,vc,hva⟩:=kr ha.row;subst hva;have hcn:=ha.nb.2;have n0:=hcn 0 _ rfl;have n1:=hcn 1 _ rfl;have n2:=hcn 2 _ rfl;have n3:=hcn 3 _ rfl;have n4:=hcn 4 _ rfl;have n5:=hcn 5 _ rfl;have n6:=hcn 6 _ rfl;have n7:=hcn 7 _ rfl;have n8:=hcn 8 _ rfl;have n9:=hcn 9 _ rfl;have n10:=hcn 10 _ rfl;have n11:=hcn 11 _ rfl;have n12:=hcn 12 _ rfl;have n13:=hcn 13 _ rfl;have xx0:=ha.xb 0 _ rfl;have xx1:=ha.xb 1 _ rfl;simp only [Nat.zero_add]at n0 n1 n2 n3 n4 n5 n6 n7 n8 n9 n10 n11 n12 n13 xx0 xx1;have hz2:=ha.hz;have cb2:=ha.cbc;have hxz:wr.heap.size<w2.heap.size:=zb;have hNS2:=ha.inv.sz;dsimp only at cb2;clear hr ha hcn))
         refine TS.begin [9,10,11] (World.Grows w2) zd zd aj (fun hS=>?_);refine kq 0 hS ?_;refine kq 1 hS ?_;refine kq 2 hS ?_;refine kq 3 hS ?_;refine kq 4 hS ?_;refine kq 5 hS ?_;refine kq 6 hS ?_;refine kq 7 hS ?_;refine kq 8 hS ?_;refine TS.one (i:=9) zd rfl (fun K1 hK1=>?_);have HK1:=yq hK1;clear hK1 hS;dsimp only [getElem_toArray,getElem_cons_succ,getElem_cons_zero]
         go_simp
         go_at_call 126
         refine(HMG.out S R _ w2 _ q HA.out af (by have:=HQ.out;omega) (by have:=HQ.out;have:=HLT.out;omega)).mono ?_;rintro e' w3 (⟨rfl,hp,hg3⟩|⟨rfl,S1,R1,hp,ha3⟩)
         ·have HR:Hid (dO l sl=(0,8)):=yq xp;have HG3:=yq hg3;clear hp hg3;refine HK1.out _ _ (fun h=>absurd zf h) ?_;clear HK1 K1
          (try simp only [nS])
          refine TS.wtB 10 ?_;refine TS.one (i:=11) zd rfl (fun K1 hK1=>?_)
          go_simp
          refine hK1 _ _ (fun h=>absurd zf h) (TS.done zd ?_);clear hK1 K1
          (try simp only [nS])
          go_wp2_with fail
          go_returns
          rw [HR.out];exact⟨rfl,gqq HG3.out af⟩
         ·have HGN:Hid (goA (l.drop (i+1)) (i+1) S1 dims' (max dep zs.length)=dO l sl):=yq (by rw [<-HGO.out];exact(Au (Kj HSI.out HAP2.out H24.out HO.out.1 HO.out.2 (by rw [HQ.out];exact hp))).symm);have HA3:=yq ha3;have ww0:=ha3.xb 0 _ rfl;have ww1:=ha3.xb 1 _ rfl;have m0:=ha3.nb.2 0 _ rfl;have m1:=ha3.nb.2 1 _ rfl;have m2:=ha3.nb.2 2 _ rfl;have m3:=ha3.nb.2 3 _ rfl;have m4:=ha3.nb.2 4 _ rfl;have m5:=ha3.nb.2 5 _ rfl;have m6:=ha3.nb.2 6 _ rfl;have m7:=ha3.nb.2 7 _ rfl;have m8:=ha3.nb.2 8 _ rfl;have m9:=ha3.nb.2 9 _ rfl;have m10:=ha3.nb.2 10 _ rfl;have m11:=ha3.nb.2 11 _ rfl;have m12:=ha3.nb.2 12 _ rfl;have m13:=ha3.nb.2 13 _ rfl;simp only [Nat.zero_add]at ww0 ww1 m0 m1 m2 m3 m4 m5 m6 m7 m8 m9 m10 m11 m12 m13;have hz3:=ha3.hz;have hxz3:wr.heap.size<w3.heap.size:=by omega
          have cb3:=ha3.cbc;dsimp only at cb3;clear hp ha3;refine HK1.out _ _ (fun h=>absurd zf h) ?_;clear HK1 K1
          (try simp only [nS])
          refine TS.wtB 10 ?_;refine TS.one (i:=11) zd rfl (fun K1 hK1=>?_)
          go_simp
          refine hK1 _ _ (fun h=>absurd zf h) (TS.done zd ?_);clear hK1 K1
          (try simp only [nS])
          go_wp2_with fail
          refine TS.begin [16] (World.Grows w3) zd zd aj (fun hS=>?_);refine kq 0 hS ?_;refine kq 1 hS ?_;refine kq 2 hS ?_;refine kq 3 hS ?_;refine kq 4 hS ?_;refine kq 5 hS ?_;refine kq 6 hS ?_;refine kq 7 hS ?_;refine kq 8 hS ?_;refine TS.take (i:=9) (v:=undef) rfl zd zd zd zf (fun _ _ _ h=>h) (.inl ⟨rfl,rfl⟩) hS ?_
          (try simp only [nS])
          refine TS.take (i:=10) (v:=undef) rfl zd zd zd zf (fun _ _ _ h=>h) (.inl ⟨rfl,rfl⟩) hS ?_
          (try simp only [nS])
          refine TS.take (i:=11) (v:=undef) rfl zd zd zd zf (fun _ _ _ h=>h) (.inl ⟨rfl,rfl⟩) hS ?_
          (try simp only [nS])
          refine TS.take (i:=12) (v:=undef) rfl zd zd zd zf (fun _ _ _ h=>h) (.inl ⟨rfl,rfl⟩) hS ?_
          (try simp only [nS])
          refine TS.take (i:=13) (v:=undef) rfl zd zd zd zf (fun _ _ _ h=>h) (.inl ⟨rfl,rfl⟩) hS ?_
          (try simp only [nS])
          refine TS.take (i:=14) (v:=undef) rfl zd zd zd zf (fun _ _ _ h=>h) (.inl ⟨rfl,rfl⟩) hS ?_
          (try simp only [nS])
          refine TS.take (i:=15) (v:=undef) rfl zd zd zd zf (fun _ _ _ h=>h) (.inl ⟨rfl,rfl⟩) hS ?_
          (try simp only [nS])
          refine TS.weB 16 ?_;clear hS
          go_wp2_with fail
          go_roundw
          case rel=>exact⟨i+1,_,_,dims',max dep zs.length,HLT.out,by rw [<-HQ.out],by first|(simp;done)|(simp;omega),by have:=H24.out;omega,HA3.out.inv.grows af,HGN⟩
          case measure=>simp [intOf];have:=HLT.out;have:=HQ.out;omega
   ·obtain rfl:i=l.length:=by omega
    have hst:=hv.st l.length (Nat.le_refl _);rw [drop_length,goA]at HGO
    cases hsi:S.getD l.length none with
    |none=>
     rw [hsi]at hst HGO;obtain⟨bs,hbl,hcs⟩:=hst;have z1:=hcs 1 _ rfl;have HR:Hid (dO l sl=((dep:Int),0)):=yq HGO.out.symm;clear hsi hbl hcs hv hlt hi
     go_wp2_with fail
     go_returns
     rw [HR.out];exact⟨rfl,gqq HG2.out af⟩
    |some s=>
     rw [hsi]at hst HGO;obtain⟨hrow,hl24,hrng⟩:=hv.row l.length s (Nat.le_refl _) hsi;obtain⟨ra,rc,hRi⟩:=kr hrow;have z1:=hst.2 1 _ rfl;rw [hRi]at z1;by_cases he:s.1= []
     ·have HR:Hid (dO l sl=((dep:Int),0)):=yq (by rw [<-HGO.out];simp only [if_pos he]);have hl0:s.1.length=0:=by rw [he];rfl
      rw [hl0]at z1;clear hsi hst hv hlt hi hrow hrng hRi hl0 hl24 he
      go_wp2_with fail
      go_returns
      rw [HR.out];exact⟨rfl,gqq HG2.out af⟩
     ·have HR:Hid (dO l sl=(0,8)):=yq (by rw [<-HGO.out];simp only [if_neg he])
      have hl0:(0:Int)<(s.1.length:Int):=by
       have:s.1.length≠0:=fun e=>he (eq_nil_of_length_eq_zero e);omega
      clear hsi hst hv hlt hi hrow hrng hRi hl24 he
      go_wp2_with fail
      go_returns
      rw [HR.out];exact⟨rfl,gqq HG2.out af⟩
def AR(T:List (Option (List Int × List Int)))(Rl:Nat->Value)(b:Nat):Prop:=∀k t,T.getD k none=some t->(Rl k).ownBlock≠some b
section
variable {n NS m : Nat} {W0 w w' : World} {T : List (Option (List Int × List Int))} {Rs Rl : Nat -> Value}
theorem mf.grows(h:mf n NS m W0 T Rs Rl w)(hg:w.Grows w'):mf n NS m W0 T Rs Rl w':=by
 have hs:=hg.below.size;have hsz:=h.sz;have e1:=hg.below.block NS h.sz;have c:∀o,w'.cell? ⟨NS,o,none⟩=w.cell? ⟨NS,o,none⟩:=fun o=>World.cell?_of_block (a:=⟨NS,o,none⟩) e1;refine⟨by omega,h.lo.trans (hg.below.mono zb),h.len,fun j hj=>?_,fun o=>(World.frozen?_of_block (a:=⟨NS,o,none⟩) e1).trans (h.sf o),fun j t ht=>?_,h.dl,h.ds⟩
 ·exact RH
 ·obtain⟨a,b,r⟩:=h.row j t ht;exact⟨aV.row (P:=fun _=>False) (.grows hg) a fun _ _ e=>e,aV.row (P:=fun _=>False) (.grows hg) b fun _ _ e=>e,r⟩
def MtP(n NS m:Nat)(W0:World)(T:List (Option (List Int × List Int)))(Rl:Nat->Value)(k:Nat)(s:List Int × List Int)(w:World)(e:Ending)(w':World):Prop:=
 ∃b,e= .returned (.bool b)/\Below NS W0 w'/\w.heap.size<=w'.heap.size/\(∀c,c<w.heap.size->c≠NS->AR T Rl c->w'.heap[c]? =w.heap[c]?)/\
  ((b=false/\gH T k s=none)\/(b=true/\∃T' Rs' Rl',gH T k s=some T'/\mf n NS m W0 T' Rs' Rl' w'/\∀c,c<w.heap.size->AR T Rl c->AR T' Rl' c))
theorem wK{α:Type}(l:List (Option α))(k j:Nat)(a:Option α)(hk:k<l.length):(l.set k a).getD j none=if k=j then a else l.getD j none:=by
 rw [qD];by_cases c:k=j
 ·subst c;rw [if_pos ⟨rfl,hk⟩,if_pos rfl]
 ·rw [if_neg (fun q=>c q.1),if_neg c]
theorem mf.meet(h:mf n NS m W0 T Rs Rl w){k B1 B2:Nat}{s:List Int × List Int}{vz vl:Value}(hkn:k<=n)(hz:w.ownsRow B1 3 1 vz s.1.length (s.1.map (Value.int .i64)))(hl:w.ownsRow B2 3 1 vl s.2.length (s.2.map (Value.int .i64)))
 (h24:s.1.length<=24) (hm:s.2.length=m) (hm12:m<=12) (hp1:∀z∈s.1,1<=z) (hp2:∀z∈s.2,0<=z) (hnz:vz.ownBlock≠some NS) (hnl:vl.ownBlock≠some NS) (hsz:∀b,vz.ownBlock=some b->AR T Rl b) (hsl:∀b,vl.ownBlock=some b->AR T Rl b) :
 Calls prog 55 #[.pointer (some ⟨NS,k*3,none⟩),vz,vl] w (MtP n NS m W0 T Rl k s w):=by
 have hs0:=h.sz;have hkl:k<T.length:=by rw [h.len];omega
 cases hT:T.getD k none with
 |none=>
  have hst:=h.st k hkn;rw [hT]at hst;refine(KZ NS (k*3) B1 B2 s.1 s.2 vz vl w h.sz hst h.sf hz hl zb zb hnz hnl).mono ?_;rintro e w' ⟨rfl,v1,v2,hu,r1,r2,hd⟩;have hsz':=hu.mods.size;have hput:gH T k s=some (T.set k (some s)):=by unfold gH;rw [hT]
  have hg:∀j,(T.set k (some s)).getD j none=if k=j then some s else T.getD j none:=fun j=>wK T k j _ hkl
  have hlt1:∀j t,T.getD j none=some t->(∀g,(Rs j).ownBlock=some g->NS+1<=g/\g<w.heap.size)/\(∀g,(Rl j).ownBlock=some g->NS+1<=g/\g<w.heap.size):=fun j t ht=>⟨fun g=>(h.row j t ht).1.lt g,fun g=>(h.row j t ht).2.1.lt g⟩;refine⟨true,rfl,h.lo.trans ⟨hu.mods.os,hu.mods.tape,hu.mods.output,hu.mods.size,fun b hb=>hu.mods.block b zb zb⟩,hsz',fun c hc hne _=>hu.mods.block c hc hne,.inr ⟨rfl,T.set k (some s),fun j=>if j=k then v1 else Rs j,fun j=>if j=k then v2 else Rl j,hput,⟨by omega,h.lo.trans ⟨hu.mods.os,hu.mods.tape,hu.mods.output,hu.mods.size,fun b hb=>hu.mods.block b zb zb⟩,by rw [length_set];exact h.len,fun j hj=>?_,fun o=>(hu.frz o).trans (h.sf o),fun j t ht=>?_,fun j k2 t u g hjk ht hu' hgb hv=>?_,fun j k2 t u g ht hu' hgb hv=>?_⟩,fun c hc hsep k2 t ht hv=>?_⟩⟩
  ·rw [hg];by_cases c:k=j
   ·subst c;rw [if_pos rfl];simp only [if_true];exact hu.cells
   ·rw [if_neg c];simp only [if_neg (Ne.symm c)];have hsj:=h.st j hj;have near:∀o,o<3->w'.cell? ⟨NS,j*3+o,none⟩=w.cell? ⟨NS,j*3+o,none⟩:=fun o ho=>hu.out _ zg
    cases hj2:T.getD j none with
    |none=>
     rw [hj2]at hsj
     exact fun i u hu2=>by
      have hi:i<3:=by have:=(List.getElem?_eq_some_iff.1 hu2).1;simpa using this
      rw [near i hi];exact hsj i u hu2
    |some t=>
     rw [hj2]at hsj
     exact fun i u hu2=>by
      have hi:i<3:=by have:=(List.getElem?_eq_some_iff.1 hu2).1;simpa using this
      rw [near i hi];exact hsj i u hu2
  ·rw [hg]at ht;by_cases c:k=j
   ·subst c;rw [if_pos rfl]at ht;obtain rfl:=Option.some.inj ht;simp only [if_true];exact⟨je r1 zb,je r2 zb,h24,hm,hp1,hp2⟩
   ·rw [if_neg c]at ht;simp only [if_neg (Ne.symm c)];obtain⟨a,b,r⟩:=h.row j t ht;exact⟨hu.mods.row a fun g hgb q=>by have:=(a.lt g hgb).1;omega,hu.mods.row b fun g hgb q=>by have:=(b.lt g hgb).1;omega,r⟩
  ·rw [hg]at ht hu';by_cases c1:k=j
   ·subst c1;rw [if_neg zb]at hu';simp only [if_true]at hgb;simp only [if_neg (Ne.symm hjk)]at hv;have q1:=(r2.lt g hgb).1;have q2:=((hlt1 k2 u hu').2 g hv).2;omega
   ·rw [if_neg c1]at ht;simp only [if_neg (Ne.symm c1)]at hgb;by_cases c2:k=k2
    ·subst c2;simp only [if_true]at hv;have q1:=(r2.lt g hv).1;have q2:=((hlt1 j t ht).2 g hgb).2;omega
    ·rw [if_neg c2]at hu';simp only [if_neg (Ne.symm c2)]at hv;exact h.dl j k2 t u g hjk ht hu' hgb hv
  ·rw [hg]at ht hu';by_cases c1:k=j
   ·subst c1;simp only [if_true]at hgb;by_cases c2:k=k2
    ·subst c2;simp only [if_true]at hv;exact hd g hv hgb
    ·rw [if_neg c2]at hu';simp only [if_neg (Ne.symm c2)]at hv;have q1:=(r2.lt g hgb).1;have q2:=((hlt1 k2 u hu').1 g hv).2;omega
   ·rw [if_neg c1]at ht;simp only [if_neg (Ne.symm c1)]at hgb;by_cases c2:k=k2
    ·subst c2;simp only [if_true]at hv;have q1:=(r1.lt g hv).1;have q2:=((hlt1 j t ht).2 g hgb).2;omega
    ·rw [if_neg c2]at hu';simp only [if_neg (Ne.symm c2)]at hv;exact h.ds j k2 t u g ht hu' hgb hv
  ·rw [hg]at ht;by_cases c1:k=k2
   ·subst c1;simp only [if_true]at hv;have q1:=(r2.lt c hv).1;omega
   ·rw [if_neg c1]at ht;simp only [if_neg (Ne.symm c1)]at hv;exact hsep k2 t ht hv
 |some t=>
  have hst:=h.st k hkn;rw [hT]at hst;obtain⟨a1,a2,a3,a4,a5,a6⟩:=h.row k t hT;have hb2:∀g,(Rl k).ownBlock=some g->NS+1<=g:=fun g hg=>(a2.lt g hg).1;refine(KY NS (k*3) (NS+1) B1 B2 t.1 t.2 s.1 s.2 (Rs k) (Rl k) vz vl w h.sz hst a1 a2 hz hl zb zb zb (fun e=>by have:=hb2 _ e;omega) (fun g hg=>h.ds k k t t g hT hT hg) (fun g hg e=>hsz g e k t hT hg) (fun g hg e=>hsl g e k t hT hg)).mono ?_;rintro e w' ⟨rfl,hmd,hrow⟩;have hsz':=hmd.size;have hlo:Below NS W0 w':=h.lo.trans ⟨hmd.os,hmd.tape,hmd.output,hmd.size,fun b hb=>hmd.block b zb (fun e=>by have:=hb2 b e;omega)⟩;have hnsb:w'.heap[NS]? =w.heap[NS]?:=hmd.block NS h.sz (fun e=>by have:=hb2 NS e;omega);refine⟨decide (t.1=s.1),rfl,hlo,hsz',fun c hc _ hsep=>hmd.block c hc (hsep k t hT), ?_⟩;by_cases he:t.1=s.1
  ·rw [decide_eq_true he];have hput:gH T k s=some (T.set k (some (t.1,zipWith (fun a b=>if b=0 then 0 else a) t.2 s.2))):=by unfold gH;rw [hT];simp only [if_pos he]
   have hg:∀j,(T.set k (some (t.1,zipWith (fun a b=>if b=0 then 0 else a) t.2 s.2))).getD j none=if k=j then some (t.1,zipWith (fun a b=>if b=0 then 0 else a) t.2 s.2)else T.getD j none:=fun j=>wK T k j _ hkl
   have hz2:(zipWith (fun(a b:Int)=>if b=0 then 0 else a) t.2 s.2).length=m:=by rw [length_zipWith,a4,hm];omega
   have hex:∀j u,(T.set k (some (t.1,zipWith (fun a b=>if b=0 then 0 else a) t.2 s.2))).getD j none=some u->∃u',T.getD j none=some u':=fun j u hu=>by
    rw [hg]at hu;by_cases c:k=j
    ·subst c;exact⟨t,hT⟩
    ·rw [if_neg c]at hu;exact⟨u,hu⟩
   refine .inr ⟨rfl,_,Rs,Rl,hput,⟨by omega,hlo,by rw [length_set];exact h.len,fun j hj=>?_,fun o=>(World.frozen?_of_block (a:=⟨NS,o,none⟩) hnsb).trans (h.sf o),fun j u hu=>?_,fun j k2 u v g hjk hu hv=>?_,fun j k2 u v g hu hv=>?_⟩,fun c hc hsep j u hu=>?_⟩
   ·rw [hg];have hsj:=h.st j hj;have cc:∀o,w'.cell? ⟨NS,o,none⟩=w.cell? ⟨NS,o,none⟩:=fun o=>World.cell?_of_block (a:=⟨NS,o,none⟩) hnsb;by_cases c:k=j
    ·subst c;rw [if_pos rfl];exact bu.same hst cc
    ·rw [if_neg c]
     cases hj2:T.getD j none with
     |none=>rw [hj2]at hsj;exact bu.same hsj cc
     |some _=>rw [hj2]at hsj;exact bu.same hsj cc
   ·rw [hg]at hu;by_cases c:k=j
    ·subst c;rw [if_pos rfl]at hu;obtain rfl:=Option.some.inj hu;refine⟨hmd.row a1 fun g hgb q=>h.ds k k t t g hT hT q hgb, ?_,a3,hz2,a5,fun z hz'=>?_⟩
     ·show w'.ownsRow (NS+1) 3 1 (Rl k) (zipWith (fun(a b:Int)=>if b=0 then 0 else a) t.2 s.2).length _;rw [hz2,<-a4];exact hrow
     ·obtain⟨i,hi,rfl⟩:=mem_iff_getElem.1 hz';simp only [getElem_zipWith]
      split
      ·omega
      ·exact a6 _ (getElem_mem _)
    ·rw [if_neg c]at hu;obtain⟨b1,b2,r⟩:=h.row j u hu;exact⟨hmd.row b1 fun g hgb q=>h.ds k j t u g hT hu q hgb,hmd.row b2 fun g hgb q=>h.dl k j t u g c hT hu q hgb,r⟩
   ·obtain⟨u',hu'⟩:=hex j u hu;obtain⟨v',hv'⟩:=hex k2 v hv;exact h.dl j k2 u' v' g hjk hu' hv'
   ·obtain⟨u',hu'⟩:=hex j u hu;obtain⟨v',hv'⟩:=hex k2 v hv;exact h.ds j k2 u' v' g hu' hv'
   ·obtain⟨u',hu'⟩:=hex j u hu;exact hsep j u' hu'
  ·rw [decide_eq_false he];exact .inl ⟨rfl,by unfold gH;rw [hT];simp only [if_neg he]⟩
end
end Go.Proofs.YteildlpchhlchaaGreatDoor
