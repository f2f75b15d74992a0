import Derived.Test.YtfoefpoaomepbaaGreatDoorTEvP
import Derived.Test.YtfoefpoaomepbaaGreatDoorTSyN
import Derived.Test.YtfoefpoaomepbaaGreatDoorTShelf4
import Derived.Test.YtfoefpoaomepbaaGreatDoorTTop
import Derived.Test.YtfoefpoaomepbaaGreatDoorTK
import Derived.Deep.AppendLies
import Derived.Laws.OwnMore
import Derived.Deep.QuietTactic
import Derived.BigRegion
import Derived.OrdersHeld
import Derived.RegionTactic
import Derived.StillTail
import Derived.Lib.IndexMore
import Derived.Lib.IndexLaws
import Derived.Lib.ItoaLen
import Derived.Sort.OwnSortedInts
import Derived.RangeFuncNested
import Derived.RangeFuncBound
import Derived.RangeFuncCalls
import Derived.RangeFuncLeaves
import Derived.RangeFuncBox
import Derived.Shelf.Abstract
import Derived.Shelf.RegionOpen
import Derived.WalkKit
import Derived.OwnWalkIn
import Derived.TacticsInMore
import Derived.LoopNIn
import Derived.LoopIn
import Derived.Maps.AppendAt
set_option linter.all false
set_option maxHeartbeats 16000000
set_option maxRecDepth 1000000
namespace Go.Proofs.YtfoefpoaomepbaaGreatDoor
open Go.RowKit
def inpI(s:ByteArray):Int:=match inpK s with|some k=>(k:Int)|none=>-1
theorem inpK_at{s:ByteArray}{k:Nat}(hk:k<11)(hs:inpNm k=s):inpK s=some k:=by
 subst hs
 have key:∀k,k<11→inpK (inpNm k)=some k:=by decide+kernel
 exact key k hk
def insV(l:List Ins):List Value:=l.flatMap fun x=>[.int .i64 x.op,.int .i64 x.a,.int .i64 x.n,.int .i64 x.d]
theorem insV_len(l:List Ins):(insV l).length=l.length*4:=by
 induction l with
 |nil=>rfl
 |cons x r ih=>unfold insV at *;rw [List.flatMap_cons,List.length_append,ih,List.length_cons];simp;omega
theorem insV_app(a b:List Ins):insV (a++b)=insV a++insV b:=by unfold insV;rw [List.flatMap_append]
theorem insV_snoc(l:List Ins)(x:Ins):insV (l++[x])=insV l++[.int .i64 x.op,.int .i64 x.a,.int .i64 x.n,.int .i64 x.d]:=by rw [insV_app];rfl
def setA(l:List Ins)(i:Nat)(z:Int):List Ins:=l.set i {l.getD i default with a:=z}
theorem setA_len(l:List Ins)(i:Nat)(z:Int):(setA l i z).length=l.length:=by unfold setA;rw [List.length_set]
theorem insV_set(l:List Ins)(i:Nat)(z:Int)(hi:i<l.length):(insV l).set (i*4+1) (.int .i64 z)=insV (setA l i z):=by
 induction l generalizing i with
 |nil=>simp at hi
 |cons x r ih=>
  cases i with
  |zero=>rfl
  |succ i=>
   have h1:insV (x::r)= [.int .i64 x.op,.int .i64 x.a,.int .i64 x.n,.int .i64 x.d]++insV r:=rfl
   have h2:setA (x::r) (i+1) z=x::setA r i z:=rfl
   rw [h1,h2,show(i+1)*4+1=4+(i*4+1)by omega,List.set_append_right _ _ (by simp)]
   show _++(insV r).set (4+(i*4+1)-4) _=_
   rw [Nat.add_sub_cancel_left,ih i (by simpa using hi)]
   rfl
theorem setA_mid(l:List Ins)(x:Ins)(r:List Ins)(z:Int):setA (l++x::r) l.length z=l++ {x with a:=z} ::r:=by
 unfold setA
 simp [List.getD_eq_getElem?_getD]
def LRow(base:Nat)(w:World)(v:Value)(l:List Ins):Prop:=w.ownsRow base 119 4 v l.length (insV l)
theorem LRow.form{base:Nat}{w:World}{v:Value}{l:List Ins}(h:LRow base w v l):∃a c,v= .slice a l.length c:=by
 obtain⟨-,⟨rfl,h0⟩|⟨g,cap,cur,rfl,-⟩⟩:=h
 ·exact⟨_,_,by rw [h0]⟩
 ·exact⟨_,_,rfl⟩
structure Ext(w w':World)(v v':Value):Prop where
 g:w.grownBy w' v.ownBlock
 at_:v'.ownBlock=v.ownBlock∨∃b,v'.ownBlock=some b∧w.heap.size≤b
theorem grown_grows{w w1 w2:World}{row:Option Nat}(hg:w.Grows w1)(h:w1.grownBy w2 row):w.grownBy w2 row:=
 ⟨h.os.trans hg.below.os,h.tape.trans hg.below.tape,h.output.trans hg.below.output,Nat.le_trans hg.below.size h.size,fun k hk hn=>(h.block k (Nat.lt_of_lt_of_le hk hg.below.size) hn).trans (hg.below.block k hk)⟩
theorem Ext.grows{w w1 w2:World}{v v':Value}(hg:w.Grows w1)(h:Ext w1 w2 v v'):Ext w w2 v v':=
 ⟨grown_grows hg h.g,h.at_.imp id fun⟨b,e,hb⟩=>⟨b,e,Nat.le_trans hg.below.size hb⟩⟩
theorem Ext.trans{w w1 w2:World}{v v1 v2:Value}(h:Ext w w1 v v1)(h2:Ext w1 w2 v1 v2):Ext w w2 v v2:=by
 refine⟨⟨h2.g.os.trans h.g.os,h2.g.tape.trans h.g.tape,h2.g.output.trans h.g.output,Nat.le_trans h.g.size h2.g.size,fun k hk hn=>?_⟩, ?_⟩
 ·refine(h2.g.block k (Nat.lt_of_lt_of_le hk h.g.size) fun e=>?_).trans (h.g.block k hk hn)
  rcases h.at_ with e1|⟨b,e1,hb⟩
  ·exact hn (e.trans e1)
  ·rw [e1]at e;cases e;omega
 ·rcases h2.at_ with e2|⟨b,e2,hb⟩
  ·exact tz63
  ·exact .inr ⟨b,e2,Nat.le_trans h.g.size hb⟩
theorem Ext.of{w w1:World}{v:Value}(hg:w.Grows w1):Ext w w1 v v:=⟨⟨hg.below.os,hg.below.tape,hg.below.output,hg.below.size,fun k hk _=>hg.below.block k hk⟩,.inl rfl⟩
theorem Ext.app{w W w1:World}{v:Value}{g n c H:Nat}(hg:w.Grows W)(h:W.grownBy w1 v.ownBlock)(ha:v.ownBlock=some g∨g=H)(hH:w.heap.size≤H):Ext w w1 v (.slice (some ⟨g,0,none⟩) n c):=
 ⟨grown_grows hg h,by
  rcases ha with e|e
  ·exact .inl e.symm
  ·exact .inr ⟨g,rfl,by omega⟩⟩
def SlIn(S:Nat→Prop)(w:World)(v:Value)(sl:List ByteArray):Prop:=
 sl.length≤1000∧(∀s∈sl,s.size≤maxLen)∧∃a cap,sl.length≤cap∧v= .slice a sl.length cap∧(sl.length=0∨∃b off,a=some ⟨b,off,none⟩∧S b∧b<w.heap.size∧∀i,i<sl.length→w.cell? ⟨b,off+i,none⟩=some (.string (sl.getD i ByteArray.empty)))
structure LPre(S:Nat→Prop)(N base:Nat)(w:World)(v vs:Value)(l:List Ins)(sl:List ByteArray):Prop where
 row:LRow base w v l
 lt:∀b,S b→b<N
 sz:N≤w.heap.size
 ap:∀b,S b→some b≠v.ownBlock
 bs:base≤w.heap.size
 sl:SlIn S w vs sl
section
variable {S : Nat → Prop} {N base : Nat} {w w' : World} {v v' vs ve : Value} {l l' : List Ins} {sl : List ByteArray} {e : Ex}
theorem LPre.step(h:LPre S N base w v vs l sl)(hx:Ext w w' v v')(hr:LRow base w' v' l'):LPre S N base w' v' vs l' sl:=by
 refine⟨hr,h.lt,Nat.le_trans h.sz hx.g.size,fun b hb e=>?_,Nat.le_trans h.bs hx.g.size, ?_⟩
 ·rcases hx.at_ with e1|⟨b',e1,hb'⟩
  ·exact h.ap b hb (e.trans e1)
  ·rw [e1]at e;cases e;have:=h.lt _ hb;have:=h.sz;omega
 ·obtain⟨h1,h2,a,cap,h3,h4,h5⟩:=h.sl
  refine⟨h1,h2,a,cap,h3,h4,h5.imp id ?_⟩
  rintro⟨b,off,ha,hS,hb,hc⟩
  exact⟨b,off,ha,hS,Nat.lt_of_lt_of_le hb hx.g.size,fun i hi=>(World.cell?_of_block (a:=⟨b,off+i,none⟩) (hx.g.block b hb (h.ap b hS))).trans (hc i hi)⟩
theorem LPre.ex(h:LPre S N base w v vs l sl)(hx:Ext w w' v v')(hr:RepE S w e ve):RepE S w' e ve:=
 hr.keep hx.g.size fun b o hS hb=>World.cell?_of_block (a:=⟨b,o,none⟩) (hx.g.block b hb (h.ap b hS))
theorem LPre.far(hx:Ext w w' v v'){b:Nat}(hb:b<w.heap.size)(hn:some b≠v.ownBlock):w'.heap[b]? =w.heap[b]?∧some b≠v'.ownBlock:=by
 refine⟨hx.g.block b hb hn,fun e=>?_⟩
 rcases hx.at_ with e1|⟨b',e1,hb'⟩
 ·exact hn (e.trans e1)
 ·rw [e1]at e;cases e;omega
theorem LPre.new(h:LPre S N base w v vs l sl):some w.heap.size≠v.ownBlock:=fun e=>by
 have:=(h.row.lt _ e.symm).2;omega
theorem LRow.grows(h:LRow base w v l)(hg:w.Grows w'):LRow base w' v l:=
 h.kept (row:=none) ⟨hg.below.os,hg.below.tape,hg.below.output,hg.below.size,fun k hk _=>hg.below.block k hk⟩ (by cases h':v.ownBlock<;>simp)
end
def LayP(base:Nat)(w:World)(v:Value)(l':List Ins)(e:Ending)(w':World):Prop:=∃v',e= .returned v'∧LRow base w' v' l'∧Ext w w' v v'
theorem infoIn:(Tryz.prog.info? 119).map (fun i=>(i.zero,i.size,i.bytes))=some (some (.agg #[.int .i64 0,.int .i64 0,.int .i64 0,.int .i64 0]),4,32):=by kernel_rfl
theorem slK_at{sl:List ByteArray}{s:ByteArray}{k:Nat}(hk:k<sl.length)(he:sl.getD k ByteArray.empty=s)(hn:∀j,j<k→sl.getD j ByteArray.empty≠s):slK sl s=k:=by
 have g:∀j (h:j<sl.length),sl.getD j ByteArray.empty=sl[j]:=fun j h=>by rw [List.getD_eq_getElem?_getD,List.getElem?_eq_getElem h];rfl
 have:sl.findIdx? (fun x=>decide (x=s))=some k:=List.findIdx?_eq_some_iff_getElem.2 ⟨hk,by simpa using(g k hk).symm.trans he,fun j hj=>by
  have:=hn j hj
  rw [g j (by omega)]at this
  simpa using this⟩
 unfold slK
 rw [this];rfl
theorem toList_ne{a b:ByteArray}(h:a≠b):(a.toList==b.toList)=false:=by
 have back:∀x:ByteArray,x=⟨x.toList.toArray⟩:=fun x=>by apply ByteArray.ext;rw [ByteArray.toList_eq]
 rw [beq_eq_false_iff_ne]
 exact fun e=>h ((back _).trans ((congrArg (fun l:List UInt8=>(⟨l.toArray⟩:ByteArray)) e).trans (back _).symm))
def LayOK(sl:List ByteArray)(e:Ex):Prop:=∀(S:Nat→Prop) (N base:Nat) (w:World) (v vs ve:Value) (l:List Ins),LPre S N base w v vs l sl→RepE S w e ve→l.length+(codeF (slK sl) e l.length).length≤1000000→Calls Tryz.prog 99999 #[v,exV e ve,vs] w (LayP base w v (l++codeF (slK sl) e l.length))
theorem codesF_len(κ:ByteArray→Nat)(l:List Ex):(codesF κ l).length=l.length:=by
 induction l with
 |nil=>simp [codesF]
 |cons e r ih=>simp [codesF,ih]
theorem codesF_get(κ:ByteArray→Nat)(l:List Ex)(k:Nat)(h:k<l.length):(codesF κ l)[k]? =some (codeF κ (l.getD k default)):=by
 induction l generalizing k with
 |nil=>simp at h
 |cons e r ih=>
  rw [codesF]
  cases k with
  |zero=>rfl
  |succ k=>exact ih k (by simpa using h)
theorem seqC_take:∀(fs:List (Nat→List Ins)) (k i:Nat) (f:Nat→List Ins),fs[k]? =some f→seqC (fs.take (k+1)) i=seqC (fs.take k) i++f (i+(seqC (fs.take k) i).length)
 | [],_,_,_,h=>by simp at h
 |g::r,0,i,f,h=>by simp at h;subst h;simp [seqC]
 |g::r,k+1,i,f,h=>by
  rw [List.take_succ_cons,List.take_succ_cons,seqC,seqC,seqC_take r k _ f (by simpa using h),List.append_assoc,List.length_append]
  simp [Nat.add_assoc]
theorem seqC_lenT:∀(fs:List (Nat→List Ins)) (k i:Nat),(seqC (fs.take k) i).length≤(seqC fs i).length
 | [],k,i=>by simp
 |g::r,0,i=>by simp [seqC]
 |g::r,k+1,i=>by
  rw [List.take_succ_cons,seqC,seqC,List.length_append,List.length_append]
  have:=seqC_lenT r k (i+(g i).length)
  omega
theorem box_far{w w':World}{v v':Value}{o:Obj}(hx:Ext (w.alloc o) w' v v')(hn:some w.heap.size≠v.ownBlock):w'.heap[w.heap.size]? =some o:=
 (LPre.far hx (by simp) hn).1.trans (heap_alloc_new _ _)
theorem RepE.args9{S:Nat→Prop}{w:World}{e:Ex}{a:Option Addr}{cap:Nat}(h:RepE S w e (.slice a e.args.length cap))(hn:0<e.args.length):∃b off,a=some ⟨b,off,none⟩∧b<w.heap.size∧
 ∀k,k<e.args.length→∃ak ck,ExAt w b (off+k*6) (e.arg k) (.slice ak (e.arg k).args.length ck)∧RepE S w (e.arg k) (.slice ak (e.arg k).args.length ck):=by
 generalize hv:Value.slice a e.args.length cap=v at h
 cases h with
 |mk _ a' cap' vs hr hc hs=>
  cases hv
  rcases hc with h0|⟨b,off,rfl,-,hb,hx⟩
  ·omega
  ·refine⟨b,off,rfl,hb,fun k hk=>?_⟩
   obtain⟨ak,ck,hvk⟩:=(hs k hk).form0
   exact⟨ak,ck,hvk ▸ hx k hk,hvk ▸ hs k hk⟩
structure St9(S:Nat→Prop)(N base:Nat)(Wb wr:World)(v vr vs:Value)(L:List Ins)(sl:List ByteArray)(e:Ex)(ea:Option Addr)(ec:Nat):Prop where
 pre:LPre S N base wr vr vs L sl
 ext:Ext Wb wr v vr
 ex:RepE S wr e (.slice ea e.args.length ec)
def St9P(S:Nat→Prop)(N base:Nat)(Wb:World)(v vs:Value)(L:List Ins)(sl:List ByteArray)(e:Ex)(ea:Option Addr)(ec:Nat)(r:Ending)(w':World):Prop:=∃a c,r= .returned (.slice a L.length c)∧St9 S N base Wb w' v (.slice a L.length c) vs L sl e ea ec
section
variable {S : Nat → Prop} {N base : Nat} {Wb wr w1 W : World} {v vr vs : Value} {L : List Ins} {sl : List ByteArray} {e : Ex} {ea : Option Addr} {ec : Nat}
theorem St9.next{v1:Value}{L1:List Ins}(h:St9 S N base Wb wr v vr vs L sl e ea ec)(hx:Ext wr w1 vr v1)(hr:LRow base w1 v1 L1):St9 S N base Wb w1 v v1 vs L1 sl e ea ec:=
 ⟨h.pre.step hx hr,h.ext.trans hx,h.pre.ex hx h.ex⟩
theorem St9.call(h:St9 S N base Wb wr v vr vs L sl e ea ec)(k:Nat)(va:Value)(hva:RepE S wr (e.arg k) va)(hk:LayOK sl (e.arg k))(hl:L.length+(codeF (slK sl) (e.arg k) L.length).length≤1000000) :
 Calls Tryz.prog 99999 #[vr,exV (e.arg k) va,vs] wr (St9P S N base Wb v vs (L++codeF (slK sl) (e.arg k) L.length) sl e ea ec):=
 (hk S N base wr vr vs va L h.pre hva hl).mono fun r w' ⟨v',he,hr,hx⟩=>by
  obtain⟨a,c,rfl⟩:=hr.form
  exact⟨a,c,he,h.next hx hr⟩
theorem St9.app(h:St9 S N base Wb wr v vr vs L sl e ea ec)(x:Ins){g n c H:Nat}(hn:n=L.length+1)(hg:wr.Grows W)(hgr:W.grownBy w1 vr.ownBlock)(ha:vr.ownBlock=some g∨g=H)(hH:wr.heap.size≤H)
 (ho:w1.ownsRow base 119 4 (.slice (some ⟨g,0,none⟩) n c) n (insV L++[.int .i64 x.op,.int .i64 x.a,.int .i64 x.n,.int .i64 x.d])):St9 S N base Wb w1 v (.slice (some ⟨g,0,none⟩) n c) vs (L++[x]) sl e ea ec:=by
 subst hn
 refine h.next (Ext.app hg hgr ha hH) ?_
 rw [←insV_snoc]at ho
 unfold LRow
 rw [List.length_append]
 exact ho
theorem St9.store{g n c:Nat}(h:St9 S N base Wb wr v (.slice (some ⟨g,0,none⟩) n c) vs L sl e ea ec)(hn:n=L.length)(i:Nat)(hi:i<L.length)(z:Int):St9 S N base Wb (wr.setCell ⟨g,i*4+1,none⟩ (.int .i64 z)) v (.slice (some ⟨g,0,none⟩) n c) vs (setA L i z) sl e ea ec:=by
 subst hn
 have hr:=h.pre.row
 unfold LRow at hr
 obtain⟨h1,h2⟩:=hr.stored (i*4+1) (.int .i64 z)
 refine h.next ⟨h2,.inl rfl⟩ ?_
 unfold LRow
 rw [←insV_set L i z hi,setA_len]
 exact h1
theorem St9.box{w0:World}{o:Obj}(h:St9 S N base (w0.alloc o) wr v vr vs L sl e ea ec)(hn:some w0.heap.size≠v.ownBlock):wr.heap[w0.heap.size]? =some o:=box_far h.ext hn
theorem St9.cell{g n c:Nat}(h:St9 S N base Wb wr v (.slice (some ⟨g,0,none⟩) n c) vs L sl e ea ec)(hn:n=L.length)(i:Nat)(hi:i<L.length):(∃u,wr.cell? ⟨g,i*4+1,none⟩=some u)∧wr.frozen? ⟨g,i*4+1,none⟩=false:=by
 subst hn
 have hr:=h.pre.row
 exact tz42
theorem St9.arg(h:St9 S N base Wb wr v vr vs L sl e ea ec)(hn:0<e.args.length):∃b off,ea=some ⟨b,off,none⟩∧b<wr.heap.size∧
 ∀k,k<e.args.length→∃ak ck,ExAt wr b (off+k*6) (e.arg k) (.slice ak (e.arg k).args.length ck)∧RepE S wr (e.arg k) (.slice ak (e.arg k).args.length ck):=h.ex.args9 hn
end
theorem br_list(l Ac Bc Cc:List Ins)(i1 i2 i3:Nat)(h1:i1=(l++Ac).length)(h2:i2=(l++Ac++[(⟨22,0,0,0⟩:Ins)]++Bc).length) :
 setA (setA (l++Ac++[(⟨22,0,0,0⟩:Ins)]++Bc++[(⟨21,0,0,0⟩:Ins)]) i1 ((l++Ac++[(⟨22,0,0,0⟩:Ins)]++Bc++[(⟨21,0,0,0⟩:Ins)]).length:Nat)++Cc) i2 i3=
  l++(Ac++⟨22,((l.length+Ac.length+1+Bc.length+1:Nat):Int),0,0⟩::(Bc++⟨21,i3,0,0⟩::Cc)):=by
 have e1:setA (l++Ac++[(⟨22,0,0,0⟩:Ins)]++Bc++[(⟨21,0,0,0⟩:Ins)]) i1 ((l++Ac++[(⟨22,0,0,0⟩:Ins)]++Bc++[(⟨21,0,0,0⟩:Ins)]).length:Nat)=l++Ac++⟨22,((l.length+Ac.length+1+Bc.length+1:Nat):Int),0,0⟩::(Bc++[(⟨21,0,0,0⟩:Ins)]):=by
  have:=setA_mid (l++Ac) ⟨22,0,0,0⟩ (Bc++[(⟨21,0,0,0⟩:Ins)]) ((l++Ac++[(⟨22,0,0,0⟩:Ins)]++Bc++[(⟨21,0,0,0⟩:Ins)]).length:Nat)
  rw [←h1]at this
  simp only [List.append_assoc,List.cons_append,List.nil_append]at this ⊢
  rw [this]
  simp only [List.length_append,List.length_cons,List.length_nil]
  congr 4
  omega
 rw [e1]
 have:=setA_mid (l++Ac++⟨22,((l.length+Ac.length+1+Bc.length+1:Nat):Int),0,0⟩::Bc) ⟨21,0,0,0⟩ Cc (i3:Int)
 rw [show(l++Ac++⟨22,((l.length+Ac.length+1+Bc.length+1:Nat):Int),0,0⟩::Bc).length=i2 by rw [h2];simp]at this
 simp only [List.append_assoc,List.cons_append,List.nil_append]at this ⊢
 rw [this]
def idxS(l:List ByteArray)(s:ByteArray):Int:=if(l.any fun x=>decide (x=s))=true then(slK l s:Int)else -1
theorem idxS_at{l:List ByteArray}{s:ByteArray}{k:Nat}(hk:k<l.length)(he:l.getD k ByteArray.empty=s)(hn:∀j,j<k→l.getD j ByteArray.empty≠s):idxS l s=k:=by
 have hm:s∈l:=by rw [←he,List.getD_eq_getElem?_getD,List.getElem?_eq_getElem hk];exact List.getElem_mem hk
 unfold idxS
 rw [if_pos (List.any_eq_true.2 ⟨s,hm,by simp⟩),slK_at hk he hn]
theorem idxS_no{l:List ByteArray}{s:ByteArray}(hn:∀j,j<l.length→l.getD j ByteArray.empty≠s):idxS l s= -1:=by
 unfold idxS
 rw [if_neg]
 intro ha
 obtain⟨x,hm,hx⟩:=List.any_eq_true.1 ha
 obtain⟨j,hj,e⟩:=List.mem_iff_getElem.1 hm
 exact hn j hj (by rw [List.getD_eq_getElem?_getD,List.getElem?_eq_getElem hj];exact e.trans (by simpa using hx))
def TxtAt(w:World)(v:Value)(l:List ByteArray):Prop:=l.length≤1000∧∃a c,v= .slice a l.length c∧(l.length=0∨∃b off,a=some ⟨b,off,none⟩∧b<w.heap.size∧∀i,i<l.length→w.cell? ⟨b,off+i,none⟩=some (.string (l.getD i ByteArray.empty)))
theorem index_any(l:List ByteArray)(s:ByteArray)(v:Value)(w:World)(h:TxtAt w v l):Calls Tryz.prog 71 #[v,.string s] w fun e w'=>e= .returned (.int .i64 (idxS l s))∧w.Grows w':=by
 obtain⟨hl,a,c,rfl,hc⟩:=h
 have HC:=Lib.hid hc
 clear hc
 go_enter Tryz.func71,Tryz.ntmps71
 go_wp2_with fail
 go_loopw [4,5,8] (fun _ _ v8 wr=>∃k:Nat,k≤l.length∧v8= .int .i64 k∧Hid (∀j,j<k→l.getD j ByteArray.empty≠s)∧w.Grows wr) (fun _ _ v8 _=>l.length-(intOf v8).toNat)
 case atStart=>exact⟨0,by omega,rfl,Lib.hid (fun j hj=>by omega),.refl _⟩
 case round=>
  obtain⟨k,hk,rfl,HN,hg⟩:=hrel
  have HG:=Lib.hid hg
  by_cases hlt:k<l.length
  ·obtain h0|⟨b,off,rfl,hbw,hcs⟩:=HC.out
   ·omega
   have x0:=(hg.below.cell (p:=⟨b,off+k,none⟩) hbw).trans (hcs k hlt)
   have hbr:b<wr.heap.size:=Nat.lt_of_lt_of_le hbw hg.below.size
   have d1:(k:Int)<(l.length:Int):=by omega
   have HLT:=Lib.hid hlt
   by_cases he:l.getD k ByteArray.empty=s
   ·have HK:=Lib.hid (idxS_at hlt he HN.out)
    rw [he]at x0
    clear hg hlt hk he HN hcs HC
    go_wp2_with fail
    go_returns
    exact⟨by rw [HK.out];rfl,HG.out⟩
   ·have HNN:Hid (∀j,j<k+1→l.getD j ByteArray.empty≠s):=Lib.hid (fun j hj=>by
     by_cases e:j=k
     ·subst e;exact he
     ·exact HN.out j (by omega))
    have q:=toList_ne (fun e=>he (Eq.symm e))
    generalize l.getD k ByteArray.empty=nm at *
    clear hg hlt hk he HN hcs
    go_wp2_with fail
    go_roundw
    case rel=>exact⟨k+1,HLT.out,by go_num,HNN,HG.out⟩
    case measure=>simp [intOf];have:=HLT.out;omega
  ·obtain rfl:k=l.length:=by omega
   have HK:=Lib.hid (idxS_no HN.out)
   clear hg hlt hk HN
   go_wp2_with fail
   go_returns
   exact⟨by rw [HK.out];rfl,HG.out⟩
def nodeB(e:Ex):Bool:=decide ((e.args.length:Int)=argsN e.op)&&
 (if e.op=1 then decOk e.num e.den e.dim&&e.name.toList.isEmpty
  else if e.op=2 then decide (e.num=0)&&decide (e.den=0)&&decide (e.dim=0)&&nameB e.name
  else if e.op=3 then decide (e.dim=0)&&e.name.toList.isEmpty&&decide (e.den=1)&&decide (1≤e.num)&&decide (e.num≤45)
  else decide (e.num=0)&&decide (e.den=0)&&decide (e.dim=0)&&e.name.toList.isEmpty)
theorem formed_node(e:Ex):formedB e=(nodeB e&&formedsB e.args):=by
 rw [formedB_eq]
 unfold nodeB
 by_cases hl:(e.args.length:Int)=argsN e.op
 ·rw [decide_eq_true hl,Bool.true_and,Bool.true_and]
  have nil (h:e.op=1∨e.op=2∨e.op=3):formedsB e.args=true:=by
   have:e.args= []:=by
    have h0:argsN e.op=0:=by unfold argsN;rw [if_pos (by omega)]
    exact List.eq_nil_of_length_eq_zero (by omega)
   rw [this];rfl
  by_cases o1:e.op=1
  ·rw [if_pos o1,if_pos o1,nil (.inl o1),Bool.and_true]
  ·rw [if_neg o1,if_neg o1]
   by_cases o2:e.op=2
   ·rw [if_pos o2,if_pos o2,nil (.inr (.inl o2)),Bool.and_true]
   ·rw [if_neg o2,if_neg o2]
    by_cases o3:e.op=3
    ·rw [if_pos o3,if_pos o3,nil (.inr (.inr o3)),Bool.and_true]
    ·rw [if_neg o3,if_neg o3,Bool.and_comm]
 ·rw [decide_eq_false hl];rfl
theorem formeds_any(l:List Ex):formedsB l=!(List.range l.length).any fun k=>!formedB (l.getD k default):=by
 induction l with
 |nil=>rfl
 |cons e r ih=>
  rw [formedsB,ih,List.length_cons,List.range_succ_eq_map,List.any_cons,List.any_map]
  simp only [List.getD_cons_zero,Bool.not_or,Bool.not_not]
  congr 1
theorem node2_len(e:Ex)(a:Option Addr)(cap:Nat)(w:World)(hr:ExRng e)(hne:¬(e.args.length:Int)=argsN e.op):(Calls Tryz.prog 134 #[exV e (.slice a e.args.length cap)] w fun r w'=>r= .returned (.bool (nodeB e))∧w.Grows w'):=by
 have HF:Hid (nodeB e=false):=Lib.hid (by unfold nodeB;rw [decide_eq_false hne,Bool.false_and])
 obtain⟨on,od⟩:=hr.num
 obtain⟨pn,pd⟩:=hr.den
 have hsz:=hr.name
 have hi:=Lib.hid (And.intro hr.num (And.intro hr.den hr.dim))
 clear hr
 have h1:((e.args.length:Int)!=argsN e.op)=true:=by simpa using hne
 clear hne
 go_enter Tryz.func134,Tryz.ntmps134
 go_wp2_with fail
 go_quiet ((go_at_call 172;exact Calls.quiet_eq (arity2_any _ _)))
 go_wp2_with fail
 go_returns
 exact⟨ret_bool HF.out.symm,.of_below belB⟩
theorem node2_name(e:Ex)(a:Option Addr)(cap:Nat)(w:World)(hr:ExRng e)(hle:(e.args.length:Int)=argsN e.op)(ho:e.op=2):(Calls Tryz.prog 134 #[exV e (.slice a e.args.length cap)] w fun r w'=>r= .returned (.bool (nodeB e))∧w.Grows w'):=by
 have HF:Hid (nodeB e=(decide (e.num=0)&&decide (e.den=0)&&decide (e.dim=0)&&nameB e.name)):=Lib.hid (by unfold nodeB;rw [decide_eq_true hle,Bool.true_and,if_neg (by omega),if_pos ho])
 obtain⟨on,od⟩:=hr.num
 obtain⟨pn,pd⟩:=hr.den
 have hsz:=hr.name
 have hi:=Lib.hid (And.intro hr.num (And.intro hr.den hr.dim))
 clear hr
 have h1:((e.args.length:Int)!=argsN 2)=false:=by rw [ho]at hle;simpa using hle
 clear hle
 have HM:=Lib.hid (show e.name.size≤maxLen by unfold maxLen;omega)
 go_enter Tryz.func134,Tryz.ntmps134
 go_wp2_with fail
 go_quiet ((go_at_call 172;exact Calls.quiet_eq (arity2_any _ _)))
 go_wp2_with (go_at_call 173;refine(isName2_any _ _ HM.out).mono ?_;rintro e' w' ⟨rfl,rfl⟩)
 all_goals
  go_returns
  exact⟨ret_bool (by rw [HF.out];first|(simp [*];done)|(simp [*];rfl)),.of_below belB⟩
theorem node2_best(e:Ex)(a:Option Addr)(cap:Nat)(w:World)(hr:ExRng e)(hle:(e.args.length:Int)=argsN e.op)(ho:e.op=3):(Calls Tryz.prog 134 #[exV e (.slice a e.args.length cap)] w fun r w'=>r= .returned (.bool (nodeB e))∧w.Grows w'):=by
 have HF:Hid (nodeB e=(decide (e.dim=0)&&e.name.toList.isEmpty&&decide (e.den=1)&&decide (1≤e.num)&&decide (e.num≤45))):=Lib.hid (by unfold nodeB;rw [decide_eq_true hle,Bool.true_and,if_neg (by omega),if_neg (by omega),if_pos ho])
 obtain⟨on,od⟩:=hr.num
 obtain⟨pn,pd⟩:=hr.den
 have hsz:=hr.name
 have hi:=Lib.hid (And.intro hr.num (And.intro hr.den hr.dim))
 clear hr
 have h1:((e.args.length:Int)!=argsN 3)=false:=by rw [ho]at hle;simpa using hle
 clear hle
 go_enter Tryz.func134,Tryz.ntmps134
 go_wp2_with fail
 go_quiet ((go_at_call 172;exact Calls.quiet_eq (arity2_any _ _)))
 go_wp2_with fail
 all_goals
  go_returns
  exact⟨ret_bool (by rw [HF.out];first|(simp [*];done)|(simp [*];rfl)|(simp [*];intros;omega)),.of_below belB⟩
theorem node2_op(e:Ex)(a:Option Addr)(cap:Nat)(w:World)(hr:ExRng e)(hle:(e.args.length:Int)=argsN e.op)(o1:¬e.op=1)(o2:¬e.op=2)(o3:¬e.op=3):(Calls Tryz.prog 134 #[exV e (.slice a e.args.length cap)] w fun r w'=>r= .returned (.bool (nodeB e))∧w.Grows w'):=by
 have HF:Hid (nodeB e=(decide (e.num=0)&&decide (e.den=0)&&decide (e.dim=0)&&e.name.toList.isEmpty)):=Lib.hid (by unfold nodeB;rw [decide_eq_true hle,Bool.true_and,if_neg o1,if_neg o2,if_neg o3])
 obtain⟨on,od⟩:=hr.num
 obtain⟨pn,pd⟩:=hr.den
 have hsz:=hr.name
 have hi:=Lib.hid (And.intro hr.num (And.intro hr.den hr.dim))
 clear hr
 have h1:((e.args.length:Int)!=argsN e.op)=false:=by simpa using hle
 have p1:(e.op==1)=false:=by simpa using o1
 have p2:(e.op==2)=false:=by simpa using o2
 have p3:(e.op==3)=false:=by simpa using o3
 clear hle o1 o2 o3
 go_enter Tryz.func134,Tryz.ntmps134
 go_wp2_with fail
 go_quiet ((go_at_call 172;exact Calls.quiet_eq (arity2_any _ _)))
 go_wp2_with fail
 all_goals
  go_returns
  exact⟨ret_bool (by rw [HF.out];simp [*]),.of_below belB⟩
def NodeLit:Prop:=∀(e:Ex) (a:Option Addr) (cap:Nat) (w:World),ExRng e→Tab w→(e.args.length:Int)=argsN e.op→e.op=1→(Calls Tryz.prog 134 #[exV e (.slice a e.args.length cap)] w fun r w'=>r= .returned (.bool (nodeB e))∧w.Grows w')
def OkX(e:Ex):Prop:=NodeLit∨noLitB e=true
theorem OkX.arg{e:Ex}(h:OkX e)(k:Nat)(hk:k<e.args.length):OkX (e.arg k):=h.imp id fun h=>noLit_arg h k hk
theorem node2_any(e:Ex)(a:Option Addr)(cap:Nat)(w:World)(hr:ExRng e)(ht:Tab w)(hx:OkX e):(Calls Tryz.prog 134 #[exV e (.slice a e.args.length cap)] w fun r w'=>r= .returned (.bool (nodeB e))∧w.Grows w'):=by
 by_cases hle:(e.args.length:Int)=argsN e.op
 ·by_cases o1:e.op=1
  ·exact hx.elim (fun h=>h e a cap w hr ht hle o1) (fun h=>absurd o1 (noLit_op h))
  ·by_cases o2:e.op=2
   ·exact node2_name e a cap w hr hle o2
   ·by_cases o3:e.op=3
    ·exact node2_best e a cap w hr hle o3
    ·exact node2_op e a cap w hr hle o1 o2 o3
 ·exact node2_len e a cap w hr hle
theorem form_clos:∀args w,(callFunc 136 args).run Tryz.prog w= .ok (.enter 136 args) w:=enters_of Tryz.func136 (by kernel_rfl) rfl
theorem form2_walk(S:Nat→Prop)(n:Nat):∀(e:Ex),e.size≤n→OkX e→∀(v:Value) (w:World),RepE S w e v→Tab w→
 Calls Tryz.prog 86 #[exV e v] w fun r w'=>r= .returned (.bool (formedB e))∧w.Grows w':=by
 induction n with
 |zero=>intro e he;have:=e.size_pos;omega
 |succ n ih=>
  intro e he hx v w h ht
  have HX:=Lib.hid hx
  have HR:=Lib.hid h
  have HT:=Lib.hid ht
  have HN:Hid (_):=Lib.hid (fun a cap w (ht:Tab w)=>node2_any e a cap w h.rng ht hx)
  have hany:=formeds_any e.args
  have hfn:=formed_node e
  obtain⟨a,cap,rfl⟩:=h.form0
  have HC:Hid (∀w',w.Grows w'→Calls Tryz.prog 135 #[.slice a e.args.length cap,.func (.func 136) #[] #[]] w' fun r w''=>r= .returned (.bool (!formedsB e.args))∧w'.Grows w''):=Lib.hid (fun w' hg=>by
   have:=containsE_any S 136 #[] form_clos e (.slice a e.args.length cap) (fun k=>!formedB (e.arg k)) w' (HR.out.grows hg) (Lib.hid (fun k hk ak ck w1 hg1 hR1=>by
    have hsm:=e.size_arg k hk
    have IH:=Lib.hid (fun w2 h1 h2=>ih (e.arg k) (by omega) (HX.out.arg k hk) (.slice ak (e.arg k).args.length ck) w2 h1 h2)
    have hT1:=Lib.hid ((HT.out.grows hg).grows hg1)
    have HR1:=Lib.hid hR1
    dsimp only
    generalize formedB (e.arg k)=q at *
    clear hany hfn HN HR HT hR1 ih hg hg1 HX hx
    generalize e.arg k=x at *
    show Calls Tryz.prog 136 #[exV x (.slice ak x.args.length ck)] w1 _
    go_enter Tryz.func136,Tryz.ntmps136
    go_wp2_with (go_at_call 86;refine(IH.out _ (HR1.out.alloc _) (hT1.out.alloc _)).mono ?_;rintro e' w' ⟨rfl,bs,d,rfl⟩)
    go_returns
    exact⟨ret_bool rfl,.of_below belB⟩))
   rw [show(List.range e.args.length).any (fun k=>!formedB (e.arg k))=!formedsB e.args by rw [hany,Bool.not_not];rfl]at this
   exact this)
  clear hany ih h ht HX hx
  generalize formedsB e.args=q at *
  generalize nodeB e=p at *
  have HF:=Lib.hid hfn
  clear hfn
  cases p
  ·go_enter Tryz.func86,Tryz.ntmps86
   go_wp2_with (go_at_call 134;refine(HN.out _ _ _ (HT.out.alloc _)).mono ?_;rintro e' w' ⟨rfl,bs,d,rfl⟩)
   go_returns
   exact⟨ret_bool (by rw [HF.out];rfl),.of_below belB⟩
  ·go_enter Tryz.func86,Tryz.ntmps86
   go_wp2_with (first|(go_at_call 134;refine(HN.out _ _ _ (HT.out.alloc _)).mono ?_;rintro e' w' ⟨rfl,bs,d,rfl⟩)|(go_at_call 135;refine(HC.out _ (.of_below belB)).mono ?_;rintro e' w' ⟨rfl,bs2,d2,rfl⟩))
   go_returns
   exact⟨ret_bool (by rw [HF.out];simp),.of_below belB⟩
theorem form2_any(S:Nat→Prop)(e:Ex)(v:Value)(w:World)(h:RepE S w e v)(ht:Tab w)(hx:OkX e):Calls Tryz.prog 86 #[exV e v] w fun r w'=>r= .returned (.bool (formedB e))∧w.Grows w':=form2_walk S e.size e (Nat.le_refl _) hx v w h ht
theorem ValidExpr2_g(S:Nat→Prop)(e:Ex)(v:Value)(w:World)(h:Hid (RepE S w e v))(hbig:Hid (e.size≤2305843009213693952))(ht:Hid (Tab w))(hx:Hid (OkX e)):Calls Tryz.prog 35 #[exV e v] w fun r w'=>r= .returned (.bool (validB e))∧w.Grows w':=by
 obtain⟨a,cap,hv⟩:=h.out.form0
 subst hv
 by_cases c1:(e.depth:Int)≤10
 ·by_cases c2:(e.size:Int)≤60
  ·go_enter Tryz.func35,Tryz.ntmps35
   go_wp2_with ((first|(go_at_call 84;refine(Depth2_walk S e.size e (Nat.le_refl _) _ _ (h.out.alloc _) hbig).mono ?_;rintro r w' ⟨rfl,bs,d,rfl⟩)|(go_at_call 85;refine(Size2_walk S e.size e (Nat.le_refl _) _ _ ((h.out.alloc _).grow _ _) hbig).mono ?_;rintro r w' ⟨rfl,bs2,d2,rfl⟩)|(go_at_call 86;refine(form2_any S e _ _ ((h.out.alloc _).grow _ _) ((ht.out.alloc _).grow _ _) hx.out).mono ?_;rintro r w' ⟨rfl,bs3,d3,rfl⟩)))
   exact tz48
  ·go_enter Tryz.func35,Tryz.ntmps35
   go_wp2_with ((first|(go_at_call 84;refine(Depth2_walk S e.size e (Nat.le_refl _) _ _ (h.out.alloc _) hbig).mono ?_;rintro r w' ⟨rfl,bs,d,rfl⟩)|(go_at_call 85;refine(Size2_walk S e.size e (Nat.le_refl _) _ _ ((h.out.alloc _).grow _ _) hbig).mono ?_;rintro r w' ⟨rfl,bs2,d2,rfl⟩)|(go_at_call 86;refine(form2_any S e _ _ ((h.out.alloc _).grow _ _) ((ht.out.alloc _).grow _ _) hx.out).mono ?_;rintro r w' ⟨rfl,bs3,d3,rfl⟩)))
   exact tz51
 ·go_enter Tryz.func35,Tryz.ntmps35
  go_wp2_with ((first|(go_at_call 84;refine(Depth2_walk S e.size e (Nat.le_refl _) _ _ (h.out.alloc _) hbig).mono ?_;rintro r w' ⟨rfl,bs,d,rfl⟩)|(go_at_call 85;refine(Size2_walk S e.size e (Nat.le_refl _) _ _ ((h.out.alloc _).grow _ _) hbig).mono ?_;rintro r w' ⟨rfl,bs2,d2,rfl⟩)|(go_at_call 86;refine(form2_any S e _ _ ((h.out.alloc _).grow _ _) ((ht.out.alloc _).grow _ _) hx.out).mono ?_;rintro r w' ⟨rfl,bs3,d3,rfl⟩)))
  exact tz49

theorem index_byte:∀(l:List UInt8) (c:UInt8),Lib.index l [c]=Lib.indexByte l c
 | [],c=>by simp [Lib.index,Lib.indexByte]
 |b::l,c=>by
  have ih:=index_byte l c
  have hp:([c]:List UInt8).isPrefixOf (b::l)=(b==c):=by
   simp only [List.isPrefixOf,Bool.and_true]
   exact BEq.comm
  unfold Lib.index Lib.indexByte
  rw [hp,ih]
def cutA(t:ByteArray):ByteArray:=⟨(Lib.cut t.data.toList [46]).1.toArray⟩
def cutB(t:ByteArray):ByteArray:=⟨(Lib.cut t.data.toList [46]).2.1.toArray⟩
def cutP(t:ByteArray):Bool:=(Lib.cut t.data.toList [46]).2.2
theorem cut_some{t:ByteArray}{o:Nat}(h:Lib.indexByte t.data.toList 46=o)(ho:o<t.size):cutA t=t.extract 0 o∧cutB t=t.extract (o+1) t.size∧cutP t=true:=by
 have e:Lib.cut t.data.toList [46]=(t.data.toList.take o,t.data.toList.drop (o+1),true):=by
  unfold Lib.cut
  rw [index_byte,h,if_pos (by omega)]
  simp
 unfold cutA cutB cutP
 rw [e]
 refine⟨?_, ?_,rfl⟩
 ·apply ByteArray.ext
  rw [ByteArray.data_extract]
  apply Array.ext'
  rw [Array.toList_extract]
  simp [List.extract]
 ·apply ByteArray.ext
  rw [ByteArray.data_extract]
  apply Array.ext'
  rw [Array.toList_extract]
  simp only [List.extract]
  rw [List.take_of_length_le]
  rw [List.length_drop,Array.length_toList]
  exact Nat.le_refl _
theorem cut_none{t:ByteArray}(h:Lib.indexByte t.data.toList 46= -1):cutA t=t∧cutB t=⟨#[]⟩∧cutP t=false:=by
 have e:Lib.cut t.data.toList [46]=(t.data.toList,[],false):=by
  unfold Lib.cut
  rw [index_byte,h,if_neg (by omega)]
 unfold cutA cutB cutP
 rw [e]
 exact⟨by apply ByteArray.ext;simp,rfl,rfl⟩
theorem scut_any(t:ByteArray)(w:World)(ht:t.size≤maxLen):Calls Tryz.prog 212 #[.string t,.string ⟨#[46]⟩] w fun e w'=>e= .returned (.tuple #[.string (cutA t),.string (cutB t),.bool (cutP t)])∧w.Grows w':=by
 unfold maxLen at ht
 have HI:Hid _:=Lib.hid (fun w=>Tryz.stringslite_Index_one t 46 w)
 have hge:=Lib.indexByte_ge t.data.toList 46
 by_cases h:Lib.indexByte t.data.toList 46= -1
 ·have HC:=Lib.hid (cut_none h)
  rw [h]at HI
  clear h hge
  go_enter Tryz.func212,Tryz.ntmps212
  go_wp2_with ((go_at_call 221;(with_reducible refine(HI.out _).mono ?_);rintro e w' ⟨rfl,rfl⟩))
  go_returns
  exact⟨by rw [HC.out.1,HC.out.2.1,HC.out.2.2];rfl,.of_below belB⟩
 ·obtain⟨o,ho⟩:∃o:Nat,Lib.indexByte t.data.toList 46=o:=⟨(Lib.indexByte t.data.toList 46).toNat,by omega⟩
  have hlt:o<t.size:=by
   have:=(Lib.indexByte_some ho).1
   have h2:=(List.getElem?_eq_some_iff.1 this).1
   simpa using h2
  have HC:=Lib.hid (cut_some ho hlt)
  rw [ho]at HI
  have h1:(o:Int)+1≤t.size:=by omega
  have h2:¬(o:Int)<0:=by omega
  have h3:(o:Int)≤t.size:=by omega
  have e1:(t.extract 0 (o:Int).toNat)=t.extract 0 o:=by rw [Int.toNat_natCast]
  have e2:t.extract ((o:Int)+1).toNat t.size=t.extract (o+1) t.size:=by congr 1
  have E:=Lib.hid (And.intro e1 e2)
  clear e1 e2 h hge ho
  go_enter Tryz.func212,Tryz.ntmps212
  go_wp2_with ((go_at_call 221;(with_reducible refine(HI.out _).mono ?_);rintro e w' ⟨rfl,rfl⟩))
  go_quiet (fail)
  go_wp2_with fail
  go_returns
  exact⟨by rw [HC.out.1,HC.out.2.1,HC.out.2.2];first|rfl|(simp;done),.of_below belB⟩
theorem Cut_dot(t:ByteArray)(w:World)(ht:t.size≤maxLen):Calls Tryz.prog 203 #[.string t,.string ⟨#[46]⟩] w fun e w'=>e= .returned (.tuple #[.string (cutA t),.string (cutB t),.bool (cutP t)])∧w.Grows w':=by
 have HI:Hid _:=Lib.hid (fun w=>scut_any t w ht)
 generalize cutA t=a at *
 generalize cutB t=b at *
 generalize cutP t=c at *
 go_enter Tryz.func203,Tryz.ntmps203
 go_wp2_with ((go_at_call 212;(with_reducible refine(HI.out _).mono ?_);rintro e w' ⟨rfl,bs,dr,rfl⟩))
 exact tz59

def formB(a b:ByteArray)(pt:Bool):Bool:=decForm a.data.toList b.data.toList pt
def decM(t:ByteArray)(m:Int):Option (Int × Int × Int):=if formB (cutA t) (cutB t) (cutP t)=true then decN (cutA t) (cutB t) m else none
theorem form_eq(a b:ByteArray)(pt:Bool):formB a b pt=(decide (1≤a.size)&&decide (a.size≤9)&&!(decide (1<a.size)&&decide (a.data.toList.head? =some 48))&&!(pt&&(decide (b.size<1) || decide (4<b.size)))):=by
 unfold formB decForm
 have h1:a.data.toList.length=a.size:=by simp
 have h2:b.data.toList.length=b.size:=by simp
 rw [h1,h2]
theorem head_eq{a:ByteArray}(h:0<a.size):(a.data.toList.head? =some 48)↔((a[0]'h).toNat:Int)=48:=by
 have h2:0<a.data.toList.length:=by simpa using h
 rw [List.head?_eq_getElem?,List.getElem?_eq_getElem h2]
 have e:a.data.toList[0]=a[0]'h:=by simp;rfl
 rw [e]
 constructor
 ·intro k;simp only [Option.some.injEq]at k;rw [k];rfl
 ·intro k
  congr 1
  apply UInt8.toNat_inj.1
  have:(48:UInt8).toNat=48:=rfl
  omega
def decK(a b:ByteArray)(pt:Bool)(m:Int):Option (Int × Int × Int):=if formB a b pt=true then decN a b m else none
theorem cutB_nil{t:ByteArray}(h:cutP t=false):(cutB t).size=0:=by
 unfold cutP Lib.cut at h
 unfold cutB Lib.cut
 split at h
 ·simp at h
 ·rename_i hc;rw [if_neg hc];rfl
theorem dec_T1k(t a b:ByteArray)(pt:Bool)(m:Int)(w:World)(hpt:pt=false→b.size=0)
 (HC:Hid (∀w,Calls Tryz.prog 203 #[.string t,.string ⟨#[46]⟩] w fun e w'=>e= .returned (.tuple #[.string a,.string b,.bool pt])∧w.Grows w'))
 (u1 u4 u5 u6 u7 u8 u9 u10 u11 u12 u13 u14 u15 u16 u17 u18 u19 u20 u21 u22 u23 u24 u25 u26 u27 u28 u29 u30 u31 u32 u33 u34 u35 u36 u37 u38 u39 u40 u41 u42 u43 u44 u45 u46 u47 u48 u49 u50 u51 u52 u53 u54 u55 u56 u57 u58 u59 u60 u61 u62 u63 u64 u65 u66 u67 u68 u69 u70 u71 u72 u73 u74 u75 u76 u77 u78 u79 u80 u81 u82 u83 u84 u85 u86 u87 u88 u89 u90 u91 u92 u93 u94 u95 u96 u97 u98 u99 u100 u101 u102 u103 u104 u105 u106 u107 u108 u109 u110 u111 u112 u113 u114 u115 u116 u117 u118 u119 u120 u121 u122 u123 u124 u125 u126 u127 u128 u129 u130 u131 u132 u133 u134 u135 u136 u137 u138 u139 u140 u141:Value) :
 Code.wp Tryz.prog (tlD (tlD (tlD (Tryz.f187.body.getD .skip)))) (bodyPost Tryz.prog Tryz.f187 (fun e w'=>e= .returned (decFV (decK a b pt m))∧w.Grows w')) {tmps:=#[.string t,u1,.pointer (some ⟨w.heap.size,0,none⟩),.int .i64 m,u4,u5,u6,u7,u8,u9,u10,u11,u12,u13,u14,u15,u16,u17,u18,u19,u20,u21,u22,u23,u24,u25,u26,u27,u28,u29,u30,u31,u32,u33,u34,u35,u36,u37,u38,u39,u40,u41,u42,u43,u44,u45,u46,u47,u48,u49,u50,u51,u52,u53,u54,u55,u56,u57,u58,u59,u60,u61,u62,u63,u64,u65,u66,u67,u68,u69,u70,u71,u72,u73,u74,u75,u76,u77,u78,u79,u80,u81,u82,u83,u84,u85,u86,u87,u88,u89,u90,u91,u92,u93,u94,u95,u96,u97,u98,u99,u100,u101,u102,u103,u104,u105,u106,u107,u108,u109,u110,u111,u112,u113,u114,u115,u116,u117,u118,u119,u120,u121,u122,u123,u124,u125,u126,u127,u128,u129,u130,u131,u132,u133,u134,u135,u136,u137,u138,u139,u140,u141],defers:=[]} (w.alloc (.cells #[.int .i64 0,.int .i64 0] 24)):=by
 have hf:=form_eq a b pt
 have hbad (h:formB a b pt=false):decK a b pt m=none:=by unfold decK;rw [h];rfl
 have hgood (h:formB a b pt=true):decK a b pt m=decN a b m:=by unfold decK;rw [h];rfl
 conv=>arg 2;whnf
 apply wp_seq_k
 intro K1 hK1
 have HK1:=Lib.hid hK1
 clear hK1
 go_wp2_with ((go_at_call 203;(with_reducible refine(HC.out _).mono ?_);rintro e w' ⟨rfl,bs,dr,rfl⟩))
 clear HC
 by_cases s1:1≤a.size
 case neg=>
  have HX:=Lib.hid (hbad (by rw [hf,decide_eq_false s1];rfl))
  have z1:(a.size:Int)<1:=by omega
  clear hf hbad hgood
  refine HK1.out _ _ ?_
  apply wp_seq_k
  intro K2 hK2
  have HK2:=Lib.hid hK2
  clear hK2
  go_wp2_with fail
  go_returns
  exact⟨by rw [HX.out];rfl,.of_below belB⟩
 by_cases s2:a.size≤9
 case neg=>
  have HX:=Lib.hid (hbad (by rw [hf,decide_eq_false s2,Bool.and_false];rfl))
  have z1:(9:Int)<(a.size:Int):=by omega
  clear hf hbad hgood
  refine HK1.out _ _ ?_
  apply wp_seq_k
  intro K2 hK2
  have HK2:=Lib.hid hK2
  clear hK2
  go_wp2_with fail
  go_returns
  exact⟨by rw [HX.out];rfl,.of_below belB⟩
 have h0:0<a.size:=by omega
 have hh:=head_eq h0
 have key (hz:(decide (1<a.size)&&decide (a.data.toList.head? =some 48))=false):formB a b pt=!(pt&&(decide (b.size<1) || decide (4<b.size))):=by
  rw [hf,decide_eq_true s1,decide_eq_true s2,hz];rfl
 by_cases s3:1<a.size
 ·by_cases s4:((a[0]'h0).toNat:Int)=48
  ·have HX:=Lib.hid (hbad (by rw [hf,decide_eq_true s3,decide_eq_true (hh.2 s4)];simp))
   have z1:(1:Int)<(a.size:Int):=by omega
   have z2:(a.size:Int)≤9:=by omega
   clear hf hbad hgood key hh
   refine HK1.out _ _ ?_
   apply wp_seq_k
   intro K2 hK2
   have HK2:=Lib.hid hK2
   clear hK2
   go_wp2_with fail
   go_returns
   exact⟨by rw [HX.out];rfl,.of_below belB⟩
  ·have hz:(decide (1<a.size)&&decide (a.data.toList.head? =some 48))=false:=by rw [decide_eq_false (fun h=>s4 (hh.1 h)),Bool.and_false]
   have hk:=key hz
   have s7:(((a[0]'h0).toNat:Int)==48)=false:=by simpa using s4
   have z1:(1:Int)<(a.size:Int):=by omega
   have z2:(a.size:Int)≤9:=by omega
   clear hf key hh hz
   cases pt
   ·have HX:=Lib.hid (hgood (by rw [hk];rfl))
    have hb0:=hpt rfl
    clear hk hbad hgood hpt
    refine HK1.out _ _ ?_
    apply wp_seq_k
    intro K2 hK2
    have HK2:=Lib.hid hK2
    clear hK2
    go_wp2_with fail
    refine HK2.out _ _ ?_
    rw [HX.out]
    exact dec_T2 a b m w bs _ (by omega) (by omega) _ _ _ _ _ _ _ _ _ _ _ _ _ _ _ _ _ _ _ _ _ _ _ _ _ _ _ _ _ _ _ _ _ _ _ _ _ _ _ _ _ _ _ _ _ _ _ _ _ _ _ _ _ _ _ _ _ _ _ _ _ _ _ _ _ _ _ _ _ _ _ _ _ _ _ _ _ _ _ _ _ _ _ _ _ _ _ _ _ _ _ _ _ _ _ _ _ _ _ _ _ _ _ _ _ _ _ _ _ _ _ _ _ _ _ _ _ _ _ _ _ _ _ _ _ _ _ _ _ _ _ _ _ _ _ _ _ _
   ·clear hpt
    by_cases s5:b.size<1
    ·have HX:=Lib.hid (hbad (by rw [hk,decide_eq_true s5];rfl))
     have z3:(b.size:Int)<1:=by omega
     clear hk hbad hgood
     refine HK1.out _ _ ?_
     apply wp_seq_k
     intro K2 hK2
     have HK2:=Lib.hid hK2
     clear hK2
     go_wp2_with fail
     go_returns
     exact⟨by rw [HX.out];rfl,.of_below belB⟩
    ·by_cases s6:4<b.size
     ·have HX:=Lib.hid (hbad (by rw [hk,decide_eq_true s6];simp))
      have z3:(4:Int)<(b.size:Int):=by omega
      clear hk hbad hgood
      refine HK1.out _ _ ?_
      apply wp_seq_k
      intro K2 hK2
      have HK2:=Lib.hid hK2
      clear hK2
      go_wp2_with fail
      go_returns
      exact⟨by rw [HX.out];rfl,.of_below belB⟩
     ·have HX:=Lib.hid (hgood (by rw [hk,decide_eq_false s5,decide_eq_false s6];rfl))
      have z3:(b.size:Int)≤4:=by omega
      have z4:(1:Int)≤(b.size:Int):=by omega
      clear hk hbad hgood
      refine HK1.out _ _ ?_
      apply wp_seq_k
      intro K2 hK2
      have HK2:=Lib.hid hK2
      clear hK2
      go_wp2_with fail
      refine HK2.out _ _ ?_
      rw [HX.out]
      exact dec_T2 a b m w bs _ (by omega) (by omega) _ _ _ _ _ _ _ _ _ _ _ _ _ _ _ _ _ _ _ _ _ _ _ _ _ _ _ _ _ _ _ _ _ _ _ _ _ _ _ _ _ _ _ _ _ _ _ _ _ _ _ _ _ _ _ _ _ _ _ _ _ _ _ _ _ _ _ _ _ _ _ _ _ _ _ _ _ _ _ _ _ _ _ _ _ _ _ _ _ _ _ _ _ _ _ _ _ _ _ _ _ _ _ _ _ _ _ _ _ _ _ _ _ _ _ _ _ _ _ _ _ _ _ _ _ _ _ _ _ _ _ _ _ _ _ _ _ _
 ·have hz:(decide (1<a.size)&&decide (a.data.toList.head? =some 48))=false:=by rw [decide_eq_false s3,Bool.false_and]
  have hk:=key hz
  have z1:(a.size:Int)≤1:=by omega
  have z2:(1:Int)≤(a.size:Int):=by omega
  clear hf key hh hz
  cases pt
  ·have HX:=Lib.hid (hgood (by rw [hk];rfl))
   have hb0:=hpt rfl
   clear hk hbad hgood hpt
   refine HK1.out _ _ ?_
   apply wp_seq_k
   intro K2 hK2
   have HK2:=Lib.hid hK2
   clear hK2
   go_wp2_with fail
   refine HK2.out _ _ ?_
   rw [HX.out]
   exact dec_T2 a b m w bs _ (by omega) (by omega) _ _ _ _ _ _ _ _ _ _ _ _ _ _ _ _ _ _ _ _ _ _ _ _ _ _ _ _ _ _ _ _ _ _ _ _ _ _ _ _ _ _ _ _ _ _ _ _ _ _ _ _ _ _ _ _ _ _ _ _ _ _ _ _ _ _ _ _ _ _ _ _ _ _ _ _ _ _ _ _ _ _ _ _ _ _ _ _ _ _ _ _ _ _ _ _ _ _ _ _ _ _ _ _ _ _ _ _ _ _ _ _ _ _ _ _ _ _ _ _ _ _ _ _ _ _ _ _ _ _ _ _ _ _ _ _ _ _
  ·clear hpt
   by_cases s5:b.size<1
   ·have HX:=Lib.hid (hbad (by rw [hk,decide_eq_true s5];rfl))
    have z3:(b.size:Int)<1:=by omega
    clear hk hbad hgood
    refine HK1.out _ _ ?_
    apply wp_seq_k
    intro K2 hK2
    have HK2:=Lib.hid hK2
    clear hK2
    go_wp2_with fail
    go_returns
    exact⟨by rw [HX.out];rfl,.of_below belB⟩
   ·by_cases s6:4<b.size
    ·have HX:=Lib.hid (hbad (by rw [hk,decide_eq_true s6];simp))
     have z3:(4:Int)<(b.size:Int):=by omega
     clear hk hbad hgood
     refine HK1.out _ _ ?_
     apply wp_seq_k
     intro K2 hK2
     have HK2:=Lib.hid hK2
     clear hK2
     go_wp2_with fail
     go_returns
     exact⟨by rw [HX.out];rfl,.of_below belB⟩
    ·have HX:=Lib.hid (hgood (by rw [hk,decide_eq_false s5,decide_eq_false s6];rfl))
     have z3:(b.size:Int)≤4:=by omega
     have z4:(1:Int)≤(b.size:Int):=by omega
     clear hk hbad hgood
     refine HK1.out _ _ ?_
     apply wp_seq_k
     intro K2 hK2
     have HK2:=Lib.hid hK2
     clear hK2
     go_wp2_with fail
     refine HK2.out _ _ ?_
     rw [HX.out]
     exact dec_T2 a b m w bs _ (by omega) (by omega) _ _ _ _ _ _ _ _ _ _ _ _ _ _ _ _ _ _ _ _ _ _ _ _ _ _ _ _ _ _ _ _ _ _ _ _ _ _ _ _ _ _ _ _ _ _ _ _ _ _ _ _ _ _ _ _ _ _ _ _ _ _ _ _ _ _ _ _ _ _ _ _ _ _ _ _ _ _ _ _ _ _ _ _ _ _ _ _ _ _ _ _ _ _ _ _ _ _ _ _ _ _ _ _ _ _ _ _ _ _ _ _ _ _ _ _ _ _ _ _ _ _ _ _ _ _ _ _ _ _ _ _ _ _ _ _ _ _
theorem decM_eq(t:ByteArray)(m:Int):decM t m=decP (Lib.cut t.data.toList [46]).1 (Lib.cut t.data.toList [46]).2.1 (Lib.cut t.data.toList [46]).2.2 m:=by
 unfold decM formB decN decP cutA cutB cutP
 simp [ByteArray.size]
theorem strip_eq{s t:ByteArray}{m:Int}(h:stripM s.data.toList=(t.data.toList,m)):decF s.data.toList=decM t m:=by
 unfold decF
 rw [h,decM_eq]
theorem last_eq{s:ByteArray}{n:Nat}(h:s.size=n+1):s.data.toList.getLast? =some (s[n]'(by omega)):=by
 have h3:s.data.toList.length=s.size:=by simp
 have h2:s.data.toList≠[]:=by
  intro e
  rw [e]at h3;simp at h3;omega
 rw [List.getLast?_eq_some_getLast h2,List.getLast_eq_getElem]
 congr 1
 have e:s.data.toList.length-1=n:=by omega
 simp only [e]
 rfl
theorem drop_last{s:ByteArray}{n:Nat}(h:s.size=n+1):(s.extract 0 n).data.toList=s.data.toList.dropLast:=by
 rw [ByteArray.data_extract,Array.toList_extract]
 have h3:s.data.toList.length=s.size:=by simp
 simp only [List.extract,List.drop_zero,Nat.sub_zero,List.dropLast_eq_take]
 congr 1
 omega
theorem Decimal2_any(s:ByteArray)(w:World)(hs:s.size≤maxLen):Calls Tryz.prog 187 #[.string s] w fun e w'=>e= .returned (decFV (decF s.data.toList))∧w.Grows w':=by
 by_cases h0:0<s.size
 ·obtain⟨n,hn⟩:∃n,s.size=n+1:=⟨s.size-1,by omega⟩
  have hl:=last_eq hn
  have hd:=drop_last hn
  have hm:s.size≤9223372036854775807:=by unfold maxLen at hs;omega
  have he:(s.extract 0 n).size≤maxLen:=by rw [ByteArray.size_extract];omega
  have hlt:n<s.size:=by omega
  obtain⟨c,hc⟩:∃c,s[n]'hlt=c:=⟨_,rfl⟩
  rw [hc]at hl
  have hN:(s.size:Int)=(n:Int)+1:=by omega
  by_cases c3:c=100
  ·have HF:Hid (decF s.data.toList=decK (cutA (s.extract 0 n)) (cutB (s.extract 0 n)) (cutP (s.extract 0 n)) 3):=Lib.hid (strip_eq (by unfold stripM;rw [hl,c3,if_pos rfl,hd]))
   have HE:=Lib.hid he
   have q1:((c.toNat:Int)==100)=true:=by rw [c3];rfl
   clear he hl hd c3 hs
   exact tz8
  ·by_cases c4:c=109
   focus
    have HF:Hid (decF s.data.toList=decK (cutA (s.extract 0 n)) (cutB (s.extract 0 n)) (cutP (s.extract 0 n)) 4):=Lib.hid (strip_eq (by unfold stripM;rw [hl,c4,if_neg (by decide),if_pos rfl,hd]))
    have HE:=Lib.hid he
    have q1:((c.toNat:Int)==100)=false:=by rw [c4];rfl
    have q2:((c.toNat:Int)==109)=true:=by rw [c4];rfl
   rotate_left
   focus
    have HF:Hid (decF s.data.toList=decK (cutA s) (cutB s) (cutP s) 2):=Lib.hid (strip_eq (by unfold stripM;rw [hl,if_neg (by simpa using c3),if_neg (by simpa using c4)]))
    have HE:=Lib.hid hs
    have q1:((c.toNat:Int)==100)=false:=by
     rw [beq_eq_false_iff_ne];intro k;exact c3 (UInt8.toNat_inj.1 (by have:(100:UInt8).toNat=100:=rfl;omega))
    have q2:((c.toNat:Int)==109)=false:=by
     rw [beq_eq_false_iff_ne];intro k;exact c4 (UInt8.toNat_inj.1 (by have:(109:UInt8).toNat=109:=rfl;omega))
   rotate_left
   all_goals
    clear he hl hd c3 c4 hs
    exact tz8
 ·have h1:s.data.toList= []:=by
   have h3:s.data.toList.length=s.size:=by simp
   exact List.eq_nil_of_length_eq_zero (by omega)
  have HF:Hid (decF s.data.toList=decK (cutA s) (cutB s) (cutP s) 2):=Lib.hid (strip_eq (by rw [h1];rfl))
  have HE:=Lib.hid hs
  have hN:(s.size:Int)=0:=by omega
  clear h1 hs
  exact tz8
def FdPost(n d m:Int)(w:World)(e:Ending)(w':World):Prop:=∃s,e= .returned (.tuple #[.string s,.bool (decOk n d m)])∧(decOk n d m=true→s.data.toList=dec2T n d m)∧w.Grows w'
theorem FdPost.no{n d m:Int}{w w':World}(h:decOk n d m=false)(hw:w.Grows w'):FdPost n d m w (.returned (.tuple #[.string ⟨#[]⟩,.bool false])) w':=
 ⟨⟨#[]⟩,by rw [h],fun k=>(by rw [h]at k;cases k),hw⟩
theorem FdPost.yes{n d m:Int}{w w':World}{s:ByteArray}(h:decOk n d m=true)(hs:s.data.toList=dec2T n d m)(hw:w.Grows w'):FdPost n d m w (.returned (.tuple #[.string s,.bool true])) w':=
 ⟨s,by rw [h],fun _=>hs,hw⟩
def FdAt(n d:Int)(k:Nat)(l:List Int)(r:Int)(s:ByteArray):Prop:=
 fdig d 4 (n % d)=(fdig d (4-k) r).map (l++ ·)∧l.length=k∧s.data.toList=Lib.decDigits (n / d).toNat++dotL l
theorem dotL_snoc{l:List Int}(h:l≠[])(x:Int):dotL (l++[x])=dotL l++[dgB x]:=by
 unfold dotL
 rw [if_neg h,if_neg (by simp)]
 simp
theorem dotL_one(x:Int):dotL [x]= [46,dgB x]:=by unfold dotL;rw [if_neg (by simp)];rfl
theorem dec_dg{x:Int}(h0:0≤x)(h1:x≤9):Lib.decDigits x.toNat= [dgB x]:=by
 rw [Lib.decDigits,dif_pos (by omega)];rfl
theorem app_list(a b:ByteArray):(a++b).data.toList=a.data.toList++b.data.toList:=by
 rw [ByteArray.data_append,Array.toList_append]
theorem fdig_more{d:Int}{f:Nat}{r:Int}(h:0<r):fdig d (f+1) r=(fdig d f (r*10 % d)).map fun l=>r*10 / d::l:=by
 rw [fdig,if_neg (by omega)]
theorem FdAt.first{n d r:Int}{s:ByteArray}(h:FdAt n d 0 [] r s)(hr:0<r)(h0:0≤r*10 / d)(h1:r*10 / d≤9):FdAt n d 1 [r*10 / d] (r*10 % d) (s++⟨#[46]⟩++⟨(Lib.decDigits (r*10 / d).toNat).toArray⟩):=by
 obtain⟨a,-,c⟩:=h
 refine⟨?_,rfl, ?_⟩
 ·rw [a,show 4-0=3+1 by rfl,fdig_more hr]
  cases fdig d 3 (r*10 % d)<;>rfl
 ·rw [app_list,app_list,c,dec_dg h0 h1,dotL_one]
  simp [dotL]
theorem FdAt.more{n d r:Int}{s:ByteArray}{k:Nat}{l:List Int}(h:FdAt n d k l r s)(hk:0<k)(hk4:k<4)(hr:0<r)(h0:0≤r*10 / d)(h1:r*10 / d≤9) :
 FdAt n d (k+1) (l++[r*10 / d]) (r*10 % d) (s++⟨(Lib.decDigits (r*10 / d).toNat).toArray⟩):=by
 obtain⟨a,b,c⟩:=h
 refine⟨?_,by simp [b], ?_⟩
 ·rw [a,show 4-k=(4-(k+1))+1 by omega,fdig_more hr]
  cases fdig d (4-(k+1)) (r*10 % d)<;>simp
 ·rw [app_list,c,dec_dg h0 h1,dotL_snoc (by intro e;rw [e]at b;simp at b;omega),List.append_assoc]
theorem FdAt.none4{n d r:Int}{s:ByteArray}{l:List Int}(h:FdAt n d 4 l r s)(hr:0<r):fdig d 4 (n % d)=none:=by
 rw [h.1];show(fdig d 0 r).map _=none;rw [fdig,if_neg (by omega)];rfl
theorem FdAt.some{n d r:Int}{s:ByteArray}{k:Nat}{l:List Int}(h:FdAt n d k l r s)(hr:r≤0):fdig d 4 (n % d)=some l:=by
 rw [h.1]
 have:fdig d (4-k) r=Option.some []:=by
  cases 4-k with
  |zero=>rw [fdig,if_pos hr]
  |succ f=>rw [fdig,if_pos hr]
 rw [this];simp
theorem dec_cmp{s:ByteArray}{n d m:Int}{l:List Int}(h1:1≤d)(h2:d≤10000)(h3:0≤n)(h4:n≤1000000000000000)(hf:fdig d 4 (n % d)=some l)(hs:s.data.toList=Lib.decDigits (n / d).toNat++dotL l++sufL m) :
 (decF s.data.toList=none∧decOk n d m=false)∨∃a b c,decF s.data.toList=some (a,b,c)∧((a=n∧b=d∧c=m∧decOk n d m=true∧s.data.toList=dec2T n d m)∨(a≠n∧decOk n d m=false)∨(b≠d∧decOk n d m=false)∨(c≠m∧decOk n d m=false)):=by
 have hr:=dec2_read (m:=m) h1 h2 h3 h4 hf
 rw [←hs]at hr
 cases hd:decF s.data.toList with
 |none=>
  left
  refine⟨rfl, ?_⟩
  rw [Bool.eq_false_iff];intro k
  have:=hr.2 k
  rw [hd]at this;cases this
 |some t=>
  right
  obtain⟨a,b,c⟩:=t
  refine⟨a,b,c,rfl, ?_⟩
  by_cases e1:a=n
  ·by_cases e2:b=d
   ·by_cases e3:c=m
    ·left
     refine⟨e1,e2,e3,hr.1 (by rw [hd,e1,e2,e3]), ?_⟩
     unfold dec2T;rw [hf];exact hs
    ·right;right;right
     refine⟨e3, ?_⟩
     rw [Bool.eq_false_iff];intro k
     have:=hr.2 k
     rw [hd]at this
     simp only [Option.some.injEq,Prod.mk.injEq]at this
     exact e3 this.2.2
   ·right;right;left
    refine⟨e2, ?_⟩
    rw [Bool.eq_false_iff];intro k
    have:=hr.2 k
    rw [hd]at this
    simp only [Option.some.injEq,Prod.mk.injEq]at this
    exact e2 this.2.1
  ·right;left
   refine⟨e1, ?_⟩
   rw [Bool.eq_false_iff];intro k
   have:=hr.2 k
   rw [hd]at this
   simp only [Option.some.injEq,Prod.mk.injEq]at this
   exact e1 this.1
theorem FormatDecimal2_any(n d m:Int)(w:World)(h1:I64 n)(h2:I64 d)(h3:I64 m)(ht:Tab w):Calls Tryz.prog 144 #[.agg #[.int .i64 n,.int .i64 d],.int .i64 m] w (FdPost n d m w):=by
 unfold I64 at h1 h2 h3
 by_cases c1:d<1
 ·exact tz23
 by_cases c2:10000<d
 ·exact tz23
 by_cases c3:n<0
 ·exact tz23
 by_cases c4:(1000000000000000:Int)<n
 ·exact tz23
 have d0:1≤d:=by omega
 have d1:d≤10000:=by omega
 have n0:0≤n:=by omega
 have n1:n≤1000000000000000:=by omega
 clear c1 c2 c3 c4
 have hq0:0≤n / d:=Int.ediv_nonneg n0 (by omega)
 have hq1:n / d≤n:=Int.ediv_le_self _ n0
 have hr0:0≤n % d:=Int.emod_nonneg _ (by omega)
 have hr1:n % d<d:=Int.emod_lt_of_pos _ (by omega)
 have et:n.tdiv d=n / d:=Int.tdiv_eq_ediv_of_nonneg n0
 have em:n.tmod d=n % d:=Int.tmod_eq_emod_of_nonneg n0
 have dz:(d==0)=false:=by simp;omega
 have HT:=Lib.hid ht
 have hi:Lib.itoa (n / d)=Lib.decDigits (n / d).toNat:=by unfold Lib.itoa;rw [if_neg (by omega)]
 have HI:Hid (∀w,Tab w→Calls Tryz.prog 186 #[.int .i64 (n / d)] w fun e w'=>e= .returned (.string ⟨(Lib.decDigits (n / d).toNat).toArray⟩)∧w.Grows w'):=Lib.hid (fun w h=>by
  have:=Itoa_any (n / d) (by omega) (by omega) w h
  rwa [hi]at this)
 have HS0:Hid (FdAt n d 0 [] (n % d) ⟨(Lib.decDigits (n / d).toNat).toArray⟩):=Lib.hid ⟨by show _=(fdig d 4 (n % d)).map _;simp,rfl,by simp [dotL]⟩
 have HZ0:Hid ((⟨(Lib.decDigits (n / d).toNat).toArray⟩:ByteArray).size≤20):=Lib.hid (by
  show(Lib.decDigits (n / d).toNat).toArray.size≤20
  rw [List.size_toArray,Lib.decDigits_length]
  exact Lib.nDigits_le20 _ (by omega))
 clear hi ht
 generalize(⟨(Lib.decDigits (n / d).toNat).toArray⟩:ByteArray)=s0 at *
 go_enter Tryz.func144,Tryz.ntmps144
 go_wp2_with (go_at_call 186;(with_reducible refine(HI.out _ (HT.out.alloc _)).mono ?_);rintro e w' ⟨rfl,bs,dr,rfl⟩)
 go_loopw [6,7,8] (fun v6 v7 v8 wr=>∃k:Nat,∃l:List Int,∃r:Int,∃s:ByteArray,k≤4∧v8= .int .i64 k∧v7= .int .i64 r∧v6= .string s∧0≤r∧r<d∧(s.size:Int)≤30+10*k∧Hid (FdAt n d k l r s)∧
  World.Grows (w.alloc (.cells #[.int .i64 n,.int .i64 d] 24)) wr) (fun _ _ v8 _=>5-(intOf v8).toNat)
 case atStart=>exact⟨0,[],_,_,by omega,rfl,rfl,rfl,hr0,hr1,by have:=HZ0.out;omega,HS0,.of_below belB⟩
 case round=>
  obtain⟨k,l,r,s,hk,rfl,rfl,rfl,r0,r1,hsz,HF,bs3,dr3,rfl⟩:=hrel
  clear HI
  by_cases hp:0<r
  ·have x0:0≤r*10 / d:=Int.ediv_nonneg (by omega) (by omega)
   have x1:r*10 / d≤9:=by
    have:r*10 / d<10:=Int.ediv_lt_of_lt_mul (by omega) (by omega)
    omega
   have x2:0≤r*10 % d:=Int.emod_nonneg _ (by omega)
   have x3:r*10 % d<d:=Int.emod_lt_of_pos _ (by omega)
   have x4:(r*10).tdiv d=r*10 / d:=Int.tdiv_eq_ediv_of_nonneg (by omega)
   have x5:(r*10).tmod d=r*10 % d:=Int.tmod_eq_emod_of_nonneg (by omega)
   have HX:Hid _:=Lib.hid (fun w=>Itoa_digit (r*10 / d) x0 x1 w)
   have HXB:=Lib.hid (And.intro x0 x1)
   obtain⟨s9,hs9⟩:∃s9,(⟨(Lib.decDigits (r*10 / d).toNat).toArray⟩:ByteArray)=s9:=⟨_,rfl⟩
   have hz9:s9.size=1:=by rw [←hs9,dec_dg x0 x1];rfl
   rw [hs9]at HX
   have HS9:=Lib.hid hs9
   clear hs9
   by_cases k0:k=0
   ·subst k0
    have hl:l= []:=List.eq_nil_of_length_eq_zero HF.out.2.1
    subst hl
    go_wp2_with (go_at_call 186;(with_reducible refine(HX.out _).mono ?_);rintro e w' ⟨rfl,rfl⟩)
    go_roundw
    case rel=>exact⟨1,_,_,_,by omega,rfl,rfl,rfl,x2,x3,by
     rw [ByteArray.size_append,ByteArray.size_append,hz9]
     show((s.size+1+1:Nat):Int)≤_
     simp at hsz ⊢;omega,Lib.hid (by rw [←HS9.out];exact HF.out.first hp HXB.out.1 HXB.out.2),.of_below belB⟩
    case measure=>simp [intOf]
   ·by_cases k4:k=4
    ·subst k4
     have HN:=Lib.hid (dec2_none (m:=m) d0 d1 n0 n1 (HF.out.none4 hp))
     go_wp2_with fail
     go_returns
     exact FdPost.no HN.out (.of_below belB)
    ·have kz:((k:Int)==0)=false:=by simp;omega
     have k44:((k:Int)==4)=false:=by simp;omega
     go_wp2_with (go_at_call 186;(with_reducible refine(HX.out _).mono ?_);rintro e w' ⟨rfl,rfl⟩)
     go_roundw
     case rel=>exact⟨k+1,_,_,_,by omega,by go_num,rfl,rfl,x2,x3,by
      rw [ByteArray.size_append,hz9];omega,Lib.hid (by rw [←HS9.out];exact HF.out.more (by omega) (by omega) hp HXB.out.1 HXB.out.2),.of_below belB⟩
     case measure=>simp [intOf];omega
  ·clear HS0 HZ0
   have hsz2:(s.size:Int)≤70:=by omega
   by_cases m3:m=3
   ·subst m3
    have HDEC:=Lib.hid (dec_cmp (m:=3) (s:=s++⟨#[100]⟩) d0 d1 n0 n1 (HF.out.some (by omega)) (by rw [app_list,HF.out.2.2];try rfl))
    have HD:Hid _:=Lib.hid (fun w=>Decimal2_any (s++⟨#[100]⟩) w (by rw [ByteArray.size_append];unfold maxLen;show s.size+1≤_;omega))
    clear HF
    rcases HDEC.out with ⟨hn,hno⟩|⟨a,b,c,hs,⟨rfl,rfl,rfl,hy,ht⟩|⟨h1,hno⟩|⟨h1,hno⟩|⟨h1,hno⟩⟩
    ·exact tz40
    ·exact tz20
    ·exact tz30
    ·exact tz32
    ·rw [hs]at HD
     simp only [decFV]at HD
     have HO:=Lib.hid hno
     have q1:(c==3)=false:=by simpa using h1
     exact tz10
   ·by_cases m4:m=4
    ·subst m4
     have HDEC:=Lib.hid (dec_cmp (m:=4) (s:=s++⟨#[109]⟩) d0 d1 n0 n1 (HF.out.some (by omega)) (by rw [app_list,HF.out.2.2];try rfl))
     have HD:Hid _:=Lib.hid (fun w=>Decimal2_any (s++⟨#[109]⟩) w (by rw [ByteArray.size_append];unfold maxLen;show s.size+1≤_;omega))
     clear HF
     rcases HDEC.out with ⟨hn,hno⟩|⟨a,b,c,hs,⟨rfl,rfl,rfl,hy,ht⟩|⟨h1,hno⟩|⟨h1,hno⟩|⟨h1,hno⟩⟩
     ·exact tz40
     ·exact tz20
     ·exact tz30
     ·exact tz32
     ·rw [hs]at HD
      simp only [decFV]at HD
      have HO:=Lib.hid hno
      have q1:(c==4)=false:=by simpa using h1
      exact tz10
    ·have y3:(m==3)=false:=by simpa using m3
     have y4:(m==4)=false:=by simpa using m4
     have hsuf:sufL m= []:=by unfold sufL;rw [if_neg m3,if_neg m4]
     have hap:s.data.toList=s.data.toList++sufL m:=by rw [hsuf,List.append_nil]
     have HAP:=Lib.hid hap
     clear m3 m4 hsuf hap
     have HDEC:=Lib.hid (dec_cmp (m:=m) (s:=s) d0 d1 n0 n1 (HF.out.some (by omega)) (by rw [HAP.out,HF.out.2.2];try rfl))
     have HD:Hid _:=Lib.hid (fun w=>Decimal2_any (s) w (by unfold maxLen;omega))
     clear HF
     rcases HDEC.out with ⟨hn,hno⟩|⟨a,b,c,hs,⟨rfl,rfl,rfl,hy,ht⟩|⟨h1,hno⟩|⟨h1,hno⟩|⟨h1,hno⟩⟩
     ·exact tz40
     ·exact tz20
     ·exact tz30
     ·exact tz32
     ·rw [hs]at HD
      simp only [decFV]at HD
      have HO:=Lib.hid hno
      have q1:(c==m)=false:=by simpa using h1
      exact tz10
def YrAt(w:World)(v:Value)(l:List Int):Prop:=
 l.length≤1000∧∃a cap,v= .slice a l.length cap∧(l.length=0∨∃b off,a=some ⟨b,off,none⟩∧b<w.heap.size∧∀i,i<l.length→w.cell? ⟨b,off+i,none⟩=some (.int .i64 (l.getD i 0)))
theorem YrAt.below{w w':World}{v:Value}{l:List Int}{n:Nat}(h:YrAt w v l)(hn:w.heap.size≤n)(hb:Below n w w'):YrAt w' v l:=by
 obtain⟨h0,a,cap,hv,h1⟩:=h
 refine⟨h0,a,cap,hv,h1.imp id ?_⟩
 rintro⟨b,off,ha,hlt,hc⟩
 refine⟨b,off,ha,Nat.lt_of_lt_of_le hlt hb.size,fun i hi=>?_⟩
 rw [hb.cell (p:=⟨b,off+i,none⟩) (Nat.lt_of_lt_of_le hlt hn)]
 exact hc i hi
theorem YrAt.grows{w w':World}{v:Value}{l:List Int}(h:YrAt w v l)(hg:w.Grows w'):YrAt w' v l:=h.below (Nat.le_refl _) hg.below
theorem YrAt.grow{w:World}{v:Value}{l:List Int}(h:YrAt w v l)(bs:Array Obj)(d:Nat):YrAt (w.grow bs d) v l:=h.grows ⟨bs,d,rfl⟩
theorem YrAt.alloc{w:World}{v:Value}{l:List Int}(h:YrAt w v l)(o:Obj):YrAt (w.alloc o) v l:=h.below (Nat.le_refl _) ((Below.refl _ _).alloc (Nat.le_refl _) _)
end Go.Proofs.YtfoefpoaomepbaaGreatDoor
namespace Go.Proofs.YtfoefpoaomepbaaGreatDoor
open Go.RowKit Go.Shelf Go.Sort Go.Lib
attribute [local go_sem] Oper.semAt_some
def YrLies(n₀:Nat)(W:World)(v:Value)(l:List Int):Prop:=
 l.length≤1000∧∃a cap,v= .slice a l.length cap∧(l.length=0∨∃b off,a=some ⟨b,off,none⟩∧b<n₀∧∀i,i<l.length→W.cell? ⟨b,off+i,none⟩=some (.int .i64 (l.getD i 0)))
theorem YrLies.below{n₀:Nat}{W W':World}{v:Value}{l:List Int}(h:YrLies n₀ W v l)(hb:Below n₀ W W'):YrLies n₀ W' v l:=by
 obtain⟨h0,a,cap,hv,h1⟩:=h
 refine⟨h0,a,cap,hv,h1.imp id ?_⟩
 rintro⟨b,off,ha,hlt,hc⟩
 exact⟨b,off,ha,hlt,fun i hi=>(hb.cell (p:=⟨b,off+i,none⟩) hlt).trans (hc i hi)⟩
theorem YrAt.lies{w:World}{v:Value}{l:List Int}(h:YrAt w v l):YrLies w.heap.size w v l:=h
end Go.Proofs.YtfoefpoaomepbaaGreatDoor
namespace Go.Proofs.YtfoefpoaomepbaaGreatDoor
open Go.RowKit
def byNm:ByteArray:=⟨#[98,121]⟩
structure CodC(w:World)(bI bS:Nat):Prop where
 hI:bI<w.heap.size
 hS:bS<w.heap.size
 ins:∀i u,[Value.int .i64 1,.int .i64 2,.int .i64 2,.int .i64 1,.int .i64 1,.int .i64 2,.int .i64 3,.int .i64 1,.int .i64 9,.int .i64 0,.int .i64 0,.int .i64 0,.int .i64 4,.int .i64 0,.int .i64 0,.int .i64 0][i]? =some u→w.cell? ⟨bI,i,none⟩=some u
 slt:w.cell? ⟨bS,0,none⟩=some (.string byNm)
theorem CodC.grows{w w':World}{bI bS:Nat}(h:CodC w bI bS)(hg:w.Grows w'):CodC w' bI bS:=
 ⟨Nat.lt_of_lt_of_le h.hI hg.below.size,Nat.lt_of_lt_of_le h.hS hg.below.size,fun i u hu=>(World.cell?_of_block (a:=⟨bI,i,none⟩) (hg.below.block bI h.hI)).trans (h.ins i u hu),(World.cell?_of_block (a:=⟨bS,0,none⟩) (hg.below.block bS h.hS)).trans h.slt⟩
theorem cutW{P:Program}{c:Code}{Q:Exit→Act→World→Prop}{a:Act}{w:World}(S:World→Prop)(h:S w)(k:∀W,S W→c.wp P Q a W):c.wp P Q a w:=k w h
def n9(k:Nat):Nat:=[0,1,2,1].getD k 0
structure P9(w Y:World)(B:Nat)(W:World):Prop where
 gr:w.Grows W
 rel:Rel Y (some B) W
 blk:∃cs ty,W.heap[B]? =some (.cells cs ty (0,0))∧cs.size=48
theorem P9.next{w Y W W2 w1:World}{B:Nat}{row:Option Nat}(h:P9 w Y B W)(hB:B<Y.heap.size)(hY:w.heap.size≤Y.heap.size)(hrow:∀b,row=some b→Y.heap.size≤b)(hg:W.Grows W2)(hgr:W2.grownBy w1 row):P9 w Y B w1:=by
 have h1:=h.gr.trans' hg
 have hs:=Nat.le_trans h.rel.1 hg.below.size
 refine⟨World.Grows.grown h1 hgr fun b e=>Nat.le_trans hY (hrow b e),⟨Nat.le_trans hs hgr.size,fun b hb hne=>?_⟩, ?_⟩
 ·rw [hgr.block b (by omega) (fun e=>by have:=hrow b e.symm;omega)]
  exact(h.rel.grows hg).2 b hb hne
 ·obtain⟨cs,ty,hc,hz⟩:=h.blk
  exact⟨cs,ty,(hgr.block B (by omega) (fun e=>by have:=hrow B e.symm;omega)).trans ((hg.below.block B (Nat.lt_of_lt_of_le hB h.rel.1)).trans hc),hz⟩
theorem P9.grows{w Y W W2:World}{B:Nat}(h:P9 w Y B W)(hB:B<Y.heap.size)(hg:W.Grows W2):P9 w Y B W2:=by
 obtain⟨cs,ty,hc,hz⟩:=h.blk
 exact⟨h.gr.trans' hg,h.rel.grows hg,cs,ty,(hg.below.block B (Nat.lt_of_lt_of_le hB h.rel.1)).trans hc,hz⟩
theorem P9.store{w Y W:World}{B:Nat}(h:P9 w Y B W)(hB:w.heap.size≤B)(j:Nat)(v:Value):P9 w Y B (W.setCell ⟨B,j,none⟩ v):=by
 obtain⟨cs,ty,hc,hz⟩:=h.blk
 exact⟨.of_below (h.gr.below.setCell hB v),⟨by have:=h.rel.1;simpa using this,fun b hb hne=>(Below.heap_setCell _ _ _ _ fun e=>hne (by simpa using e)).trans (h.rel.2 b hb hne)⟩,_,ty,Go.Joins.block_setCell hc v,by simpa using hz⟩
theorem P9.cell{w Y W:World}{B:Nat}(h:P9 w Y B W)(j:Nat)(hj:j<48):∃u,W.cell? ⟨B,j,none⟩=some u:=by
 obtain⟨cs,ty,hc,hz⟩:=h.blk
 exact⟨cs[j],by rw [cell_of_row W _ j _ _ _ hc];simp [hz,hj]⟩
theorem own_grow9{w:World}{base:Nat}{e:TypeId}{size:Nat}{v:Value}{n:Nat}{xs:List Value}(h:w.ownsRow base e size v n xs){w':World}(hg:w.Grows w'):w'.ownsRow base e size v n xs:=
 h.kept (row:=none) ⟨hg.below.os,hg.below.tape,hg.below.output,hg.below.size,fun k hk _=>hg.below.block k hk⟩ (by cases h':v.ownBlock<;>simp)
end Go.Proofs.YtfoefpoaomepbaaGreatDoor
