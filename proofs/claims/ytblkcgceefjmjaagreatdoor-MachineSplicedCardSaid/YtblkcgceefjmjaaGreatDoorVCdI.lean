import Derived.Test.YtblkcgceefjmjaaGreatDoorVRunM
import Derived.Test.YtblkcgceefjmjaaGreatDoorSEvY
import Derived.ProofKit
import Derived.SizedLaws
set_option linter.all false
set_option maxHeartbeats 16000000
set_option maxRecDepth 1000000
namespace Go.Proofs.YtblkcgceefjmjaaGreatDoor
open Go.Proofs.Tryz Tryz List
open Go.RowKit
theorem aW{base:Nat}{w:World}{v:Value}{sl:List ByteArray}(h:w.ownsRow base 9 1 v sl.length (slV sl))(hl:sl.length<=1000)(hs:∀s∈sl,s.size<=maxLen):SlAt w v sl:=by
 obtain⟨a,c,rfl,hc,h0⟩:=rowForm3 h;refine⟨by omega,hs,a,c,hc,rfl,h0.imp id ?_⟩;rintro⟨b,rfl,hb,-,hlt⟩;refine⟨b,0,rfl,hlt,fun i hi=>?_⟩;rw [Nat.zero_add];exact(h.cellAt i zb).trans (slV_get sl i hi)
theorem iU{n d:Int}(h:vfrac n d=true):I64 n/\I64 d:=by have:=vfrac_bd h;unfold I64;omega
theorem InsOk.app9{a b:List Ins}(h:InsOk a)(k:InsOk b):InsOk (a++b):=fun x hx=>(mem_append.1 hx).elim (h x) (k x)
theorem InsOk.nil9:InsOk []:=fun x hx=>by cases hx
theorem InsOk.one9{x:Ins}{b:List Ins}(hx:I64 x.n/\I64 x.d)(k:InsOk b):InsOk (x::b):=fun y hy=>by
 rcases mem_cons.1 hy with h|h
 ·rw [h];exact hx
 ·exact k y h
theorem aD:I64 0/\I64 0:=by unfold I64;omega
theorem dL{κ:ByteArray->Nat}:∀(xs:List Ex),(∀a∈xs,∀i,InsOk (codeF κ a i))->∀i,InsOk (seqC (codesF κ xs) i)
 | [],_,_=>.nil9
 |a::r,h,i=>(h a zf i).app9 (dL r (fun b hb=>h b (mem_cons_of_mem _ hb)) _)
theorem dx{A B C:Nat->List Ins}(hA:∀i,InsOk (A i))(hB:∀i,InsOk (B i))(hC:∀i,InsOk (C i))(i:Nat):InsOk (brC A B C i):=
 (hA i).app9 (.one9 aD ((hB _).app9 (.one9 aD (hC _))))
theorem bH{κ:ByteArray->Nat}(xs:List Ex)(h:∀a∈xs,∀i,InsOk (codeF κ a i))(k i:Nat):InsOk ((codesF κ xs).getD k (fun _=>[]) i):=by
 induction xs generalizing k with
 |nil=>simpa [codesF]using InsOk.nil9
 |cons a r ih=>
  cases k with
  |zero=>exact h a zf i
  |succ k=>exact ih (fun b hb=>h b (mem_cons_of_mem _ hb)) k
mutual
theorem bG{κ:ByteArray->Nat}:∀e:Ex,formedB e=true->∀i,InsOk (codeF κ e i)
 | .mk op n d m s xs,hf,i=>by
   rw [formedB,Bool.and_eq_true,decide_eq_true_eq]at hf;obtain⟨hlen,hf⟩:=hf;rw [codeF];unfold codeNode;by_cases h1:op=1
   ·rw [if_pos h1]at hf ⊢;refine .one9 ?_ .nil9;unfold decOk at hf;simp only [Bool.and_eq_true]at hf;exact iU (by first|exact hf.1.1.1.1.1.1|exact hf.1.1.1.1.1|exact hf.1.1.1.1|exact hf.1.1.1|exact hf.1.1|exact hf.1)
   by_cases h2:op=2
   ·rw [if_neg h1,if_pos h2];refine .one9 ?_ .nil9;unfold nameI
    split<;>exact aD
   by_cases h3:op=3
   ·rw [if_neg h1,if_neg h2,if_pos h3];exact .one9 aD .nil9
   rw [if_neg h1,if_neg h2,if_neg h3]at hf ⊢;have hx:=bZ (κ:=κ) xs (Bool.and_eq_true_iff.1 hf).1;have a0:=fun i=>bH xs hx 0 i;have a1:=fun i=>bH xs hx 1 i;have a2:=fun i=>bH xs hx 2 i;by_cases h17:op=17
   ·rw [if_pos h17];exact dx a0 a1 (fun _=>.one9 aD .nil9) i
   by_cases h18:op=18
   ·rw [if_neg h17,if_pos h18];exact dx a0 (fun _=>.one9 aD .nil9) a1 i
   by_cases h21:op=21
   ·rw [if_neg h17,if_neg h18,if_pos h21];exact dx a0 a1 a2 i
   rw [if_neg h17,if_neg h18,if_neg h21];exact(dL xs hx i).app9 (.one9 aD .nil9)
theorem bZ{κ:ByteArray->Nat}:∀xs:List Ex,formedsB xs=true->∀a∈xs,∀i,InsOk (codeF κ a i)
 | [],_,_,ha,_=>by cases ha
 |e::r,hf,a,ha,i=>by
  rw [formedsB,Bool.and_eq_true]at hf;rcases mem_cons.1 ha with h|ha
  ·rw [h];exact bG e hf.1 i
  ·exact bZ r hf.2 a ha i
end
theorem cz(ls:List (List Int))(g:List Int):∀k,k<=5->InsOk (codeS ls g k)
 |0,_=>.nil9
 |k+1,h=>by
  have ih:=cz ls g k zb;have hb:=dimM_bd ls k;have t1:=fun n=>bG (κ:=slK (namesM k)) _ (good_made (l:=ls) (i:=k) zb g (dim:=1) zb zb).1 n;have t2:=fun n=>bG (κ:=slK (namesM k)) _ (good_made (l:=ls) (i:=k) zb (ls.getD k []) hb.1 hb.2).1 n;have e:(dfnM ls k).e=topF (ls.getD k []) (envM ls k) (dimM ls k):=rfl;rw [codeS,e];dsimp only
  split
  ·unfold setA;have hA:InsOk (codeS ls g k++codeF (slK (namesM k)) (topF g (envM ls k) 1) (codeS ls g k).length++[(⟨22,0,0,0⟩:Ins)]++codeF (slK (namesM k)) (topF (ls.getD k []) (envM ls k) (dimM ls k)) (codeS ls g k++codeF (slK (namesM k)) (topF g (envM ls k) 1) (codeS ls g k).length++[(⟨22,0,0,0⟩:Ins)]).length++[(⟨4,(k:Int),0,0⟩:Ins)]):=(((ih.app9 (t1 _)).app9 (.one9 aD .nil9)).app9 (t2 _)).app9 (.one9 aD .nil9);exact hA.set _ (hA.at _)
  ·exact(ih.app9 (t2 _)).app9 (.one9 aD .nil9)
theorem bQ(l:List (List Int))(g:List Int):InsOk (madeC l g):=by
 rw [<-codeS_made];exact cz l g _ zb
theorem aJ(ls:List (List Int))(g:List Int):(madeC ls g).length<=2000:=by
 rw [<-codeS_made];have:=codeS_len ls g (min ls.length 5) zb;omega
section
variable {w W W' W1 : World} {base g : Nat} {cI cS vI vS v1 : Value} {l l1 : List Ins} {sl sl1 : List ByteArray}
theorem Spo.lay9(h:Spo w base g cI cS vI vS l sl W)(hx:Ext W W1 vI v1)(hr:LRow base W1 v1 l1):Spo w base g cI cS v1 vS l1 sl W1:=by
 obtain⟨ty,hb⟩:=h.blk
 refine⟨World.Grows.grown h.gr hx.g (fun k e=>by have:=(h.row.lt k e).1;have:=h.wb;omega),h.wg,h.wb,Nat.lt_of_lt_of_le h.gW hx.g.size,Nat.le_trans h.bW hx.g.size,
  ⟨ty,(hx.g.block g h.gW (fun e=>h.dI e.symm)).trans hb⟩,hr,keptNe h.slr hx.g h.dIS,apNew hx.at_ (fun k e=>(h.slr.lt k e).2) h.dIS, ?_,h.dS⟩
 intro e;rcases hx.at_ with e1|⟨b,e1,hb1⟩
 ·exact h.dI (e1 ▸ e)
 ·rw [e1]at e;cases e;have:=h.gW;omega
theorem Spo.slot9(h:Spo w base g cI cS vI vS l sl W)(hx:Ext W W1 vS v1)(hr:W1.ownsRow base 9 1 v1 sl1.length (slV sl1)):Spo w base g cI cS vI v1 l sl1 W1:=by
 obtain⟨ty,hb⟩:=h.blk
 refine⟨World.Grows.grown h.gr hx.g (fun k e=>by have:=(h.slr.lt k e).1;have:=h.wb;omega),h.wg,h.wb,Nat.lt_of_lt_of_le h.gW hx.g.size,Nat.le_trans h.bW hx.g.size,
  ⟨ty,(hx.g.block g h.gW (fun e=>h.dS e.symm)).trans hb⟩,keptNe h.row hx.g (apSym h.dIS),hr,apSym (apNew hx.at_ (fun k e=>(h.row.lt k e).2) (apSym h.dIS)),h.dI, ?_⟩
 intro e;rcases hx.at_ with e1|⟨b,e1,hb1⟩
 ·exact h.dS (e1 ▸ e)
 ·rw [e1]at e;cases e;have:=h.gW;omega
theorem Spo.ins9(h:Spo w base g cI cS vI vS l sl W)(x:Ins){gg n c H:Nat}(hn:n=l.length+1)(hg:W.Grows W')(hgr:W'.grownBy W1 vI.ownBlock)(ha:vI.ownBlock=some gg\/gg=H)(hH:W.heap.size<=H)
 (ho:W1.ownsRow base 103 4 (.slice (some ⟨gg,0,none⟩) n c) n (insV l++[.int .i64 x.op,.int .i64 x.a,.int .i64 x.n,.int .i64 x.d])):Spo w base g cI cS (.slice (some ⟨gg,0,none⟩) n c) vS (l++[x]) sl W1:=by
 subst hn;refine h.lay9 (Ext.app hg hgr ha hH) ?_;rw [<-insV_snoc]at ho;unfold LRow;rw [length_append];exact ho
theorem Spo.nm9(h:Spo w base g cI cS vI vS l sl W)(s:ByteArray){gg n c H:Nat}(hn:n=sl.length+1)(hg:W.Grows W')(hgr:W'.grownBy W1 vS.ownBlock)(ha:vS.ownBlock=some gg\/gg=H)(hH:W.heap.size<=H)
 (ho:W1.ownsRow base 9 1 (.slice (some ⟨gg,0,none⟩) n c) n (slV sl++[.string s])):Spo w base g cI cS vI (.slice (some ⟨gg,0,none⟩) n c) l (sl++[s]) W1:=by
 subst hn;refine h.slot9 (Ext.app hg hgr ha hH) ?_;rw [length_append,slV,map_append];exact ho
theorem Spo.setS9(h:Spo w base g cI cS vI vS l sl W)(u:Value):Spo w base g cI u vI vS l sl (W.setCell ⟨g,1,none⟩ u):=h.setc 1 u rfl
end
theorem dY(R:VwR):VwRng (viewP R):=by
 have h:=viewP_ok R;unfold Vw.ok at h;simp only [Bool.and_eq_true]at h;have:=vfrac_bd h.1.2.1;exact⟨⟨by omega,by omega⟩,⟨by omega,by omega⟩⟩
def au(st:List (ByteArray × Val))(i:Nat):ByteArray × Val:=st.getD i (ByteArray.empty,.zero)
theorem dF{st:List (ByteArray × Val)}{i:Nat}(hi:i<st.length):au st i∈st:=by
 unfold au;rw [getD_eq_getElem?_getD,getElem?_eq_getElem hi];exact getElem_mem hi
theorem iA{l:List Ins}{sl:List ByteArray}{d:Int}(h:verA l sl=(d,0)):sl.length<=12:=(form_all (ver_form h).1).2.2.1.1
theorem StpsOk.named{l:List Ins}{sl:List ByteArray}{n:Nat}{dd:Int}{st:List (ByteArray × Val)}(hv:verA l sl=(dd,0))(h:StpsOk l sl n st){i:Nat}(hi:i<st.length):∃k,k<sl.length/\sl.getD k ByteArray.empty=(au st i).1:=by
 obtain⟨j,-,h4,e⟩:=h.nm (au st i) (dF hi);have hf:=(form_all (ver_form hv).1).2.1
 have hj:j<l.length:=by
  rcases Nat.lt_or_ge j l.length with c|c
  ·exact c
  ·rw [getD_eq_getElem?_getD,getElem?_eq_none c]at h4;exact absurd h4 ze
 have hw:=(wf_rest (hf j hj) zb).2.2.1 (.inr h4);exact⟨_,by omega,e.symm⟩
theorem iF(l:List (ByteArray × Val))(i:Nat)(h:i<l.length):(spV l)[i*5]? =some (.string (au l i).1)/\(spV l)[i*5+1]? =some (.int .i64 (au l i).2.dim)/\(spV l)[i*5+2]? =some (.bool (au l i).2.yes)/\(spV l)[i*5+3]? =some (.int .i64 (au l i).2.n)/\(spV l)[i*5+4]? =some (.int .i64 (au l i).2.d):=by
 induction l generalizing i with
 |nil=>simp at h
 |cons x r ih=>
  have e:spV (x::r)= .string x.1:: .int .i64 x.2.dim:: .bool x.2.yes:: .int .i64 x.2.n:: .int .i64 x.2.d::spV r:=rfl;rw [e]
  cases i with
  |zero=>exact⟨rfl,rfl,rfl,rfl,rfl⟩
  |succ i=>
   have:=ih i (by simpa using h);rw [show(i+1)*5=i*5+1+1+1+1+1 by omega];exact this
theorem RowsAt.growsM{w w':World}{v:Value}{zss:List (List Int)}(h:RowsAt w v zss)(hg:w.Grows w'):RowsAt w' v zss:=by
 obtain⟨h0,a,cap,hv,h1⟩:=h;refine⟨h0,a,cap,hv,h1.imp id ?_⟩;rintro⟨b,off,ha,hlt,hc⟩;refine⟨b,off,ha,Nat.lt_of_lt_of_le hlt hg.below.size,fun i hi=>?_⟩;obtain⟨u,hu,hi⟩:=hc i hi;obtain⟨bs,d,rfl⟩:=hg;exact⟨u,(World.cell?_grow _ _ _ hlt).trans hu,hi.grow bs d⟩
theorem IntsAt.growsM{w w':World}{v:Value}{zs:List Int}(h:IntsAt w v zs)(hg:w.Grows w'):IntsAt w' v zs:=by
 obtain⟨bs,d,rfl⟩:=hg;exact h.grow bs d
def aI(w:World)(v:Value)(st:List (ByteArray × Val)):Prop:=∃a c,v= .slice a st.length c/\(st.length:Int)<=9223372036854775807/\(st.length=0\/∃g,a=some ⟨g,0,none⟩/\g<w.heap.size/\∀i,i<st.length->w.cell? ⟨g,i*5,none⟩=some (.string (au st i).1)/\w.cell? ⟨g,i*5+1,none⟩=some (.int .i64 (au st i).2.dim)/\w.cell? ⟨g,i*5+2,none⟩=some (.bool (au st i).2.yes)/\w.cell? ⟨g,i*5+3,none⟩=some (.int .i64 (au st i).2.n)/\w.cell? ⟨g,i*5+4,none⟩=some (.int .i64 (au st i).2.d))
theorem aI.of_own{w:World}{B:Nat}{v:Value}{st:List (ByteArray × Val)}(h:w.ownsRow B 70 5 v st.length (spV st)):aI w v st:=by
 obtain⟨a,c,rfl,-,hs⟩:=rowForm3 h;refine⟨a,c,rfl, ?_,hs.imp id ?_⟩
 focus
  rcases h.2 with ⟨_,h0⟩|⟨g,cap,cur,h',hb,hg,hnc,hcm,_⟩
  ·rw [h0];decide
  ·have:=hnc;have:=hcm;unfold maxLen at *;omega
 rintro⟨g,rfl,hb,-,hlt⟩;refine⟨g,rfl,hlt,fun i hi=>?_⟩;obtain⟨e0,e1,e2,e3,e4⟩:=iF st i hi;exact⟨(h.cellAt _ zb).trans e0,(h.cellAt _ zb).trans e1,(h.cellAt _ zb).trans e2,(h.cellAt _ zb).trans e3,(h.cellAt _ zb).trans e4⟩
theorem YrAt.of_rowB{w:World}{base:Nat}{v:Value}{l:List Int}{k:Nat}{xs:List Value}(h:w.ownsRow base 3 1 v k xs)(hk:k=l.length)(hx:xs=l.map (Value.int .i64))(hl:l.length<=1000):YrAt w v l:=by
 subst hk hx;exact YrAt.of_row h hl
theorem gJ{w:World}{base:Nat}{v:Value}{k:Nat}{xs:List Value}(h:w.ownsRow base 3 1 v k xs):(v= .slice none 0 0/\k=0)\/∃g cap,v= .slice (some ⟨g,0,none⟩) k cap/\base<=g/\g<w.heap.size:=by
 obtain⟨-,⟨rfl,h0⟩|⟨g,cap,cur,rfl,hb,hg,-⟩⟩:=h
 ·exact .inl ⟨rfl,h0⟩
 ·exact .inr ⟨g,cap,rfl,hb,(Array.getElem?_eq_some_iff.1 hg).1⟩
end Go.Proofs.YtblkcgceefjmjaaGreatDoor
namespace Go
theorem aV{P:Program}{ops:Array Oper}{o:Oper}{a:Act}{w:World}{K:Act->World->Prop}{Q:Exit->Act->World->Prop}{E:Prop}(hgd:o.guard=none)(s x:Operand)(t:TypeId)
 (ho:o.op= .call {callee:=.builtin .append,args:=#[s,x],argTypes:=#[t,t]})
 (base:Nat) (e:TypeId) (i:TypeInfo) (z:Value) (size bytes:Nat) (ht:P.underlying t=some (.slice e)) (hi:P.info? e=some i) (hz:i.zero=some z)
 (hsize:i.size=size) (hby:i.bytes=bytes) (hzs:z.cells.size=size) (hsz:0<size)
 (v:Value) (n:Nat) (xs:List Value) (hs:a.eval s=v) (hown:w.ownsRow base e size v n xs)
 (ad:Addr) (m c:Nat) (news:List Value) (hx:a.eval x= .slice (some ad) m c) (hl:news.length=m*size) (hnews:∀j u,news[j]? =some u->w.cell? (ad.add j)=some u) (h1:∀u∈news,u.oneCell'=true)
 (h63:n+m<=maxLen) (hbytes:(n+m)*bytes<=140737488355328) (hbase:base<=w.heap.size)
 (h:∀v' w',w'.ownsRow base e size v' (n+m) (xs++news)->w.grownBy w' v.ownBlock->K (a.put o.dst v') w') :
 if Region.wanted o (yielded ops a.tmps)=true then Oper.wp P o a w K Q else E:=by
 have hw:Region.wanted o (yielded ops a.tmps)=true:=by simp [Region.wanted,hgd]
 rw [if_pos hw];exact wp_append_own w s x t ho base e i z size bytes ht hi hz hsize hby hzs hsz v n xs hs hown ad m c news hx hl hnews h1 h63 hbytes hbase fun v' w' h2 h3 _=>h v' w' h2 h3
end Go
namespace Go
open Go.RowKit
theorem RowKit.Below.setBoth{B:Nat}{a w:World}(h:Below B a w)(p:Addr)(v:Value):Below B (a.setCell p v) (w.setCell p v):=
 ⟨h.os,h.tape,h.output,by simpa [World.setCell]using h.size,fun k hk=>by
  simp only [World.setCell,Array.getElem?_modify]
  rw [h.block k hk]⟩
theorem World.heap_grow_same{X Y:World}(hs:X.heap.size=Y.heap.size)(bs:Array Obj)(d d':Nat){k:Nat}(hk:X.heap.size<=k):(Y.grow bs d').heap[k]? =(X.grow bs d).heap[k]?:=by
 show(Y.heap++bs)[k]? =(X.heap++bs)[k]?;rw [Array.getElem?_append_right zb,Array.getElem?_append_right hk,hs]
theorem World.ownsRow_same{X Y:World}(hs:X.heap.size=Y.heap.size){bs:Array Obj}{d d':Nat}{base size n:Nat}{e:TypeId}{v:Value}{xs:List Value}(hb:X.heap.size<=base)(h:(X.grow bs d).ownsRow base e size v n xs):(Y.grow bs d').ownsRow base e size v n xs:=by
 obtain⟨h0,h1|⟨g,cap,cur,hv,hbg,hg,hr⟩⟩:=h
 ·exact⟨h0,.inl h1⟩
 ·exact⟨h0,.inr ⟨g,cap,cur,hv,hbg,(World.heap_grow_same hs bs d d' zb).trans hg,hr⟩⟩
end Go
namespace Go.Proofs.YtblkcgceefjmjaaGreatDoor
open Go.Proofs.Tryz Tryz List
open Go.RowKit Go.ChangeShapes Go.WideShapes Go.Deep
section
variable {H : Type} {enc : TypeId × Value -> H} {P : Program} {w : World}
theorem RowsAt.of_trod{t e q:TypeId}{fuel:Nat}{v:Value}{x:DataW H × List MemPlace}(ht:P.underlying t=some (.slice e))(he:P.underlying e=some (.slice q))(hq:P.underlying q=some (.int .i64))(ce:P.cellsOf e=1)(cq:P.cellsOf q=1)(be:P.bytesOf e=24)(bq:P.bytesOf q=8)
 (h:DataW.trod enc P w 0 (fun _=>true) true fuel t [v]=some x) (hf:fits P t x.1):∃zss,RowsAt w v zss:=by
 rcases open_int_rows ht he hq ce cq h with ⟨hcs,_⟩|⟨a,len,cap,A,L,C,Z,hcs,_,hl,hm,hx,hr⟩
 ·simp at hcs;subst hcs;exact⟨[],by simp,none,0,rfl,.inl rfl⟩
 ·simp at hcs;subst hcs
  have h8:len<=140737488355328:=by
   have h9:=hf ((len+(cap-len))*24) (by rw [hx];simp [DataW.weights,ht,be]);omega
  have hrow:∀r,r<len->IntsAt w (.slice (A r) (L r) (C r)) ((Z r).take (L r)):=by
   intro r hrl;obtain⟨h1,h2,h3,h4,h5,h6,h7⟩:=hr r zb;refine IntsAt.of_cells h2 h4 h5 ?_ (fun e=>by have:=h6 e;omega) (fun x' hx' i hi=>(h7 x' hx').2 i hi)
   cases hA:A r with
   |none=>have:=h6 hA;omega
   |some y=>
    have h9:=hf ((L r+(C r-L r))*8) (by
     rw [hx];simp only [DataW.weights,ht,mem_cons,mem_append];right;left
     have key:∀(l:List Nat),r∈l->(L r+(C r-L r))*8∈DataW.weightsAll P e (l.map fun r=>(intRow (H:=H) .i64 (A r) (L r) (Z r))):=by
      intro l
      induction l with
      |nil=>intro h;cases h
      |cons y' l ih=>
       intro h;simp only [map_cons,DataW.weightsAll,mem_append];rcases mem_cons.1 h with rfl|h
       ·left;simp [intRow,hA,DataW.weights,he,lits,bq,h4,Nat.min_eq_left h2]
       ·exact .inr (ih h)
     exact key _ (mem_range.2 hrl))
    omega
  refine⟨(List.range len).map fun r=>(Z r).take (L r),by simpa using h8,some a,cap,by simp, ?_⟩;by_cases h0:len=0
  ·left;simp [h0]
  ·right;obtain⟨b,off,spot⟩:=a;have h1:=(hr 0 zb).1;have hspot:spot=none:=by simpa [Addr.add]using World.cell?_spot h1
   subst hspot
   have h2:∀i,i<cap->w.cell? ⟨b,off+i,none⟩=some (.slice (A i) (L i) (C i)):=fun i hi=>by
    rw [<-add_at'];exact(hr i hi).1
   refine⟨b,off,rfl,cell_lt (h2 0 zb),fun i hi=>?_⟩;have hi':i<len:=by simpa using hi
   refine⟨_,h2 i zb, ?_⟩;have:((List.range len).map fun r=>(Z r).take (L r)).getD i []=(Z i).take (L i):=by simp [getD_eq_getElem?_getD,hi']
   rw [this];exact hrow i hi'
end
theorem iX{α:Type}{cs:Array α}(h:cs.size=10):∃c0 c1 c2 c3 c4 c5 c6 c7 c8 c9,cs=#[c0,c1,c2,c3,c4,c5,c6,c7,c8,c9]:=by
 obtain⟨l⟩:=cs
 match l,h with
 | [c0,c1,c2,c3,c4,c5,c6,c7,c8,c9],_=>exact⟨c0,c1,c2,c3,c4,c5,c6,c7,c8,c9,rfl⟩
theorem c25:(prog).cellsOf 49=10:=by kernel_rfl
theorem RawAt.of_trod{H:Type}{enc:TypeId × Value->H}{w:World}{r:Reach}{b0:Nat}{v:Value}{d:DataW H}{p:List MemPlace}(hv:Value.okWide prog w r b0 49 v)
 (h:DataW.Trod enc prog w 0 (fun _=>true) true 49 v d p) (hf:fits prog 49 d) :
 ∃R cs,v= .agg cs/\RawAt w cs.toList R:=by
 have ht:=underlying49;obtain⟨cs,rfl,hsz⟩:=okWide_struct ht hv;obtain⟨c0,c1,c2,c3',c4,c5,c6,c7,c8,c9,rfl⟩:=iX (hsz.trans c25);obtain⟨fuel,h⟩:=h;obtain⟨xs,n,_,hx,_,hlen,hF⟩:=DataW.trod_struct ht h;simp only [Prod.mk.injEq]at hx;obtain⟨rfl,-⟩:=hx;have k0:=hF 0 _ rfl;have k1:=hF 1 _ rfl;have k2:=hF 2 _ rfl;have k3:=hF 3 _ rfl;have k4:=hF 4 _ rfl;have k5:=hF 5 _ rfl;have k6:=hF 6 _ rfl;have k7:=hF 7 _ rfl;have k8:=hF 8 _ rfl;have k9:=hF 9 _ rfl;simp only [Value.cells,drop_zero,drop_succ_cons,take_succ_cons,take_zero]at k0 k1 k2 k3 k4 k5 k6 k7 k8 k9
 match xs,hlen with
 | [y0,y1,y2,y3,y4,y5,y6,y7,y8,y9],_=>
   obtain⟨n0,rfl,w0⟩:=int_of_trod k0;obtain⟨n1,rfl,w1⟩:=int_of_trod k1;obtain⟨n2,rfl,w2⟩:=int_of_trod k2;obtain⟨n9,rfl,w9⟩:=int_of_trod k9;obtain⟨z3,w3⟩:=IntsAt.of_trod underlying22 underlying3 c3 b3 k3 (fits_part ht hf (i:=3) rfl rfl);obtain⟨z4,w4⟩:=IntsAt.of_trod underlying22 underlying3 c3 b3 k4 (fits_part ht hf (i:=4) rfl rfl);obtain⟨z5,w5⟩:=RowsAt.of_trod underlying47 underlying22 underlying3 c22 c3 b22 b3 k5 (fits_part ht hf (i:=5) rfl rfl);obtain⟨z6,w6⟩:=RowsAt.of_trod underlying47 underlying22 underlying3 c22 c3 b22 b3 k6 (fits_part ht hf (i:=6) rfl rfl);obtain⟨z7,w7⟩:=RowsAt.of_trod underlying47 underlying22 underlying3 c22 c3 b22 b3 k7 (fits_part ht hf (i:=7) rfl rfl);obtain⟨z8,w8⟩:=RowsAt.of_trod underlying47 underlying22 underlying3 c22 c3 b22 b3 k8 (fits_part ht hf (i:=8) rfl rfl);exact⟨⟨n0,n1,n2,z3,z4,z5,z6,z7,z8,n9⟩,_,rfl,w0,w1,w2,w9,c3',c4,c5,c6,c7,c8,rfl,w3,w4,w5,w6,w7,w8⟩
theorem fu{H:Type}{enc:TypeId × Value->H}{W:World}{v:Value}{d:DataW H}{p:List MemPlace}{r:Reach}{b0:Nat}(hv:Value.okWide prog W r b0 47 v)(h:DataW.Trod enc prog W 0 (fun _=>true) true 47 v d p)(hf:fits prog 47 d):∃zs,RowsAt W v zs:=by
 obtain⟨fuel,h⟩:=h;obtain⟨a,len,cap,rfl⟩:=okWide_slice underlying47 hv;exact RowsAt.of_trod (v:=.slice a len cap) underlying47 underlying22 underlying3 c22 c3 b22 b3 (by simpa [Value.cells]using h) hf
end Go.Proofs.YtblkcgceefjmjaaGreatDoor
